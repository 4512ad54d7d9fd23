/- Parts of the proof, one behind the other. -/
import Derived.Test.YtdgmdkkockbkjaaGreatDoorRefil
import Derived.Test.YtdgmdkkockbkjaaGreatDoorZkaj
import Derived.Test.YtdgmdkkockbkjaaGreatDoorZkal
import Derived.Test.YtdgmdkkockbkjaaGreatDoorZkam
import Derived.Test.YtdgmdkkockbkjaaGreatDoorZkan
import Derived.Test.YtdgmdkkockbkjaaGreatDoorZkao
/- Contracts of package typecaseref09: Fits whole. -/
namespace Go.Proofs.YtdgmdkkockbkjaaGreatDoor
open Go.RowKit
set_option linter.unusedVariables false
set_option linter.unusedSimpArgs false

set_option maxRecDepth 100000 in
set_option maxHeartbeats 1000000 in
theorem rfit_may (nm : ByteArray) (op rd rs1 rs2 imm : Int) (w : World) (hv : -2147483648 ≤ imm) (hv' : imm ≤ 2147483647) (h : mayB op rd rs1 rs2 imm = false) :
    Calls Tryz.prog 75 #[.string nm, .agg #[.int .i64 op, .int .i64 rd, .int .i64 rs1, .int .i64 rs2, .int .i32 imm]] w fun e w' => e = .returned (.bool false) ∧ Nx w w' := by
  go_enter Tryz.func75, Tryz.ntmps75
  go_wp2_with fail
  refine (rmay_any _ _ _ _ _ _ hv hv').mono ?_
  rintro e w1 ⟨rfl, hn1⟩
  rw [h]
  have HN := Lib.hid (((Nx.refl w).alloc _).trans hn1)
  clear hn1
  go_wp2
  go_ret
  exact ⟨rfl, HN.out⟩

set_option maxRecDepth 100000 in
set_option maxHeartbeats 4000000 in
theorem rfit_other (nm : ByteArray) (k : Nat) (s : List UInt8) (rd rs1 rs2 imm : Int) (w : World) (hv : -2147483648 ≤ imm) (hv' : imm ≤ 2147483647) (hs : nmB[k]? = some s) (hk : k < 49) (h : mayB k rd rs1 rs2 imm = true)
    (e0 : (nm.toList == [99, 46, 97, 100, 100, 105, 52, 115, 112, 110]) = false) (e1 : (nm.toList == [99, 46, 108, 119]) = false) (e2 : (nm.toList == [99, 46, 115, 119]) = false) (e3 : (nm.toList == [99, 46, 110, 111, 112]) = false) (e4 : (nm.toList == [99, 46, 97, 100, 100, 105]) = false) (e5 : (nm.toList == [99, 46, 106, 97, 108]) = false) (e6 : (nm.toList == [99, 46, 108, 105]) = false) (e7 : (nm.toList == [99, 46, 97, 100, 100, 105, 49, 54, 115, 112]) = false) (e8 : (nm.toList == [99, 46, 108, 117, 105]) = false) (e9 : (nm.toList == [99, 46, 115, 114, 108, 105]) = false) (e10 : (nm.toList == [99, 46, 115, 114, 97, 105]) = false) (e11 : (nm.toList == [99, 46, 97, 110, 100, 105]) = false) (e12 : (nm.toList == [99, 46, 115, 117, 98]) = false) (e13 : (nm.toList == [99, 46, 120, 111, 114]) = false) (e14 : (nm.toList == [99, 46, 111, 114]) = false) (e15 : (nm.toList == [99, 46, 97, 110, 100]) = false) (e16 : (nm.toList == [99, 46, 106]) = false) (e17 : (nm.toList == [99, 46, 98, 101, 113, 122]) = false) (e18 : (nm.toList == [99, 46, 98, 110, 101, 122]) = false) (e19 : (nm.toList == [99, 46, 115, 108, 108, 105]) = false) (e20 : (nm.toList == [99, 46, 108, 119, 115, 112]) = false) (e21 : (nm.toList == [99, 46, 106, 114]) = false) (e22 : (nm.toList == [99, 46, 109, 118]) = false) (e23 : (nm.toList == [99, 46, 101, 98, 114, 101, 97, 107]) = false) (e24 : (nm.toList == [99, 46, 106, 97, 108, 114]) = false) (e25 : (nm.toList == [99, 46, 97, 100, 100]) = false) (e26 : (nm.toList == [99, 46, 115, 119, 115, 112]) = false) :
    Calls Tryz.prog 75 #[.string nm, .agg #[.int .i64 k, .int .i64 rd, .int .i64 rs1, .int .i64 rs2, .int .i32 imm]] w fun e w' => e = .returned (.bool false) ∧ Nx w w' := by
  have HS := Lib.hid hs
  clear hs
  go_enter Tryz.func75, Tryz.ntmps75
  go_wp2_with fail
  refine (rmay_any _ _ _ _ _ _ hv hv').mono ?_
  rintro e w1 ⟨rfl, hn1⟩
  rw [h]
  obtain ⟨c0, c1, c2, c3, c4, hz⟩ := five_in hn1
  have HN := Lib.hid (((Nx.refl w).alloc _).trans hn1)
  clear hn1
  go_wp2
  go_region_with (go_at_call 85; refine (names_nm k s HS.out _).mono ?_; rintro e w2 ⟨g, rfl, hg, hn2⟩; have hn3 : Nx w1 w2 := Nx.trans ((Nx.refl _).drew) hn2; have d0 := hn3.cell c0)
  all_goals
    have d1 := hn3.cell c1
    have d2 := hn3.cell c2
    have d4 := hn3.cell c4
    have hz3 : w.heap.size < w2.heap.size := Nat.lt_of_lt_of_le hz hn3.size
    have HN3 := Lib.hid (HN.out.trans hn3)
    clear hn2 hn3 hg c0 c1 c2 c3 c4
    go_wp2
    go_ret
    exact ⟨rfl, HN3.out⟩

theorem rFits_any (nm : ByteArray) (op rd rs1 rs2 imm : Int) (w : World) (hv : -2147483648 ≤ imm) (hv' : imm ≤ 2147483647) :
    Calls Tryz.prog 75 #[.string nm, .agg #[.int .i64 op, .int .i64 rd, .int .i64 rs1, .int .i64 rs2, .int .i32 imm]] w fun e w' => e = .returned (.bool (rFitB nm.toList op rd rs1 rs2 imm)) ∧ Nx w w' := by
  unfold rFitB
  cases h : mayB op rd rs1 rs2 imm
  · rw [Bool.false_and]; exact rfit_may nm op rd rs1 rs2 imm w hv hv' h
  rw [Bool.true_and]
  obtain ⟨k, rfl, hk, hs⟩ := may_nm op rd rs1 rs2 imm h
  generalize nmB.getD ((k : Int)).toNat [] = s at *
  by_cases e0 : nm.toList = [99, 46, 97, 100, 100, 105, 52, 115, 112, 110]
  · rw [e0, bytes_eq e0]; exact rfit_0 k s rd rs1 rs2 imm w hv hv' hs hk h
  by_cases e1 : nm.toList = [99, 46, 108, 119]
  · rw [e1, bytes_eq e1]; exact rfit_1 k s rd rs1 rs2 imm w hv hv' hs hk h
  by_cases e2 : nm.toList = [99, 46, 115, 119]
  · rw [e2, bytes_eq e2]; exact rfit_2 k s rd rs1 rs2 imm w hv hv' hs hk h
  by_cases e3 : nm.toList = [99, 46, 110, 111, 112]
  · rw [e3, bytes_eq e3]; exact rfit_3 k s rd rs1 rs2 imm w hv hv' hs hk h
  by_cases e4 : nm.toList = [99, 46, 97, 100, 100, 105]
  · rw [e4, bytes_eq e4]; exact rfit_4 k s rd rs1 rs2 imm w hv hv' hs hk h
  by_cases e5 : nm.toList = [99, 46, 106, 97, 108]
  · rw [e5, bytes_eq e5]; exact rfit_5 k s rd rs1 rs2 imm w hv hv' hs hk h
  by_cases e6 : nm.toList = [99, 46, 108, 105]
  · rw [e6, bytes_eq e6]; exact rfit_6 k s rd rs1 rs2 imm w hv hv' hs hk h
  by_cases e7 : nm.toList = [99, 46, 97, 100, 100, 105, 49, 54, 115, 112]
  · rw [e7, bytes_eq e7]; exact rfit_7 k s rd rs1 rs2 imm w hv hv' hs hk h
  by_cases e8 : nm.toList = [99, 46, 108, 117, 105]
  · rw [e8, bytes_eq e8]; exact rfit_8 k s rd rs1 rs2 imm w hv hv' hs hk h
  by_cases e9 : nm.toList = [99, 46, 115, 114, 108, 105]
  · rw [e9, bytes_eq e9]; exact rfit_9 k s rd rs1 rs2 imm w hv hv' hs hk h
  by_cases e10 : nm.toList = [99, 46, 115, 114, 97, 105]
  · rw [e10, bytes_eq e10]; exact rfit_10 k s rd rs1 rs2 imm w hv hv' hs hk h
  by_cases e11 : nm.toList = [99, 46, 97, 110, 100, 105]
  · rw [e11, bytes_eq e11]; exact rfit_11 k s rd rs1 rs2 imm w hv hv' hs hk h
  by_cases e12 : nm.toList = [99, 46, 115, 117, 98]
  · rw [e12, bytes_eq e12]; exact rfit_12 k s rd rs1 rs2 imm w hv hv' hs hk h
  by_cases e13 : nm.toList = [99, 46, 120, 111, 114]
  · rw [e13, bytes_eq e13]; exact rfit_13 k s rd rs1 rs2 imm w hv hv' hs hk h
  by_cases e14 : nm.toList = [99, 46, 111, 114]
  · rw [e14, bytes_eq e14]; exact rfit_14 k s rd rs1 rs2 imm w hv hv' hs hk h
  by_cases e15 : nm.toList = [99, 46, 97, 110, 100]
  · rw [e15, bytes_eq e15]; exact rfit_15 k s rd rs1 rs2 imm w hv hv' hs hk h
  by_cases e16 : nm.toList = [99, 46, 106]
  · rw [e16, bytes_eq e16]; exact rfit_16 k s rd rs1 rs2 imm w hv hv' hs hk h
  by_cases e17 : nm.toList = [99, 46, 98, 101, 113, 122]
  · rw [e17, bytes_eq e17]; exact rfit_17 k s rd rs1 rs2 imm w hv hv' hs hk h
  by_cases e18 : nm.toList = [99, 46, 98, 110, 101, 122]
  · rw [e18, bytes_eq e18]; exact rfit_18 k s rd rs1 rs2 imm w hv hv' hs hk h
  by_cases e19 : nm.toList = [99, 46, 115, 108, 108, 105]
  · rw [e19, bytes_eq e19]; exact rfit_19 k s rd rs1 rs2 imm w hv hv' hs hk h
  by_cases e20 : nm.toList = [99, 46, 108, 119, 115, 112]
  · rw [e20, bytes_eq e20]; exact rfit_20 k s rd rs1 rs2 imm w hv hv' hs hk h
  by_cases e21 : nm.toList = [99, 46, 106, 114]
  · rw [e21, bytes_eq e21]; exact rfit_21 k s rd rs1 rs2 imm w hv hv' hs hk h
  by_cases e22 : nm.toList = [99, 46, 109, 118]
  · rw [e22, bytes_eq e22]; exact rfit_22 k s rd rs1 rs2 imm w hv hv' hs hk h
  by_cases e23 : nm.toList = [99, 46, 101, 98, 114, 101, 97, 107]
  · rw [e23, bytes_eq e23]; exact rfit_23 k s rd rs1 rs2 imm w hv hv' hs hk h
  by_cases e24 : nm.toList = [99, 46, 106, 97, 108, 114]
  · rw [e24, bytes_eq e24]; exact rfit_24 k s rd rs1 rs2 imm w hv hv' hs hk h
  by_cases e25 : nm.toList = [99, 46, 97, 100, 100]
  · rw [e25, bytes_eq e25]; exact rfit_25 k s rd rs1 rs2 imm w hv hv' hs hk h
  by_cases e26 : nm.toList = [99, 46, 115, 119, 115, 112]
  · rw [e26, bytes_eq e26]; exact rfit_26 k s rd rs1 rs2 imm w hv hv' hs hk h
  have e : refB nm.toList s rd rs1 rs2 imm = false := by
    have hi : shB.idxOf nm.toList = 27 := List.idxOf_eq_length (by
      intro hm
      simp only [shB, List.mem_cons, List.not_mem_nil, or_false] at hm
      rcases hm with hm | hm | hm | hm | hm | hm | hm | hm | hm | hm | hm | hm | hm | hm | hm | hm | hm | hm | hm | hm | hm | hm | hm | hm | hm | hm | hm <;> contradiction)
    unfold refB
    rw [hi]
    rfl
  rw [e]
  exact rfit_other nm k s rd rs1 rs2 imm w hv hv' hs hk h (by simpa using e0) (by simpa using e1) (by simpa using e2) (by simpa using e3) (by simpa using e4) (by simpa using e5) (by simpa using e6) (by simpa using e7) (by simpa using e8) (by simpa using e9) (by simpa using e10) (by simpa using e11) (by simpa using e12) (by simpa using e13) (by simpa using e14) (by simpa using e15) (by simpa using e16) (by simpa using e17) (by simpa using e18) (by simpa using e19) (by simpa using e20) (by simpa using e21) (by simpa using e22) (by simpa using e23) (by simpa using e24) (by simpa using e25) (by simpa using e26)

end Go.Proofs.YtdgmdkkockbkjaaGreatDoor

/- Contracts of typecaseref17: could, Known, hangs: the item of a text's instruction. -/
namespace Go.Proofs.YtdgmdkkockbkjaaGreatDoor
open Go.RowKit
set_option linter.unusedVariables false
set_option linter.unusedSimpArgs false

abbrev insV (i : In5) : Value := .agg #[.int .i64 i.op, .int .i64 i.rd, .int .i64 i.rs1, .int .i64 i.rs2, .int .i32 i.imm]

abbrev insO (i : In5) : Obj := .cells #[.int .i64 i.op, .int .i64 i.rd, .int .i64 i.rs1, .int .i64 i.rs2, .int .i32 i.imm] 23

abbrev optV (a b : Bool) : Value := .agg #[.bool a, .bool b]

theorem fits_at (s : List UInt8) (op rd rs1 rs2 imm : Int) (b : Bool) (h : fitS (B s) op rd rs1 rs2 imm = b) (h0 : -2147483648 ≤ imm) (h1 : imm ≤ 2147483647) (w : World) :
    Calls Tryz.prog 75 #[.string (B s), .agg #[.int .i64 op, .int .i64 rd, .int .i64 rs1, .int .i64 rs2, .int .i32 imm]] w fun e w' => e = .returned (.bool b) ∧ Nx w w' := by
  rw [← h, fitS_ref]
  exact rFits_any (B s) op rd rs1 rs2 imm w h0 h1

theorem may_at (op rd rs1 rs2 imm : Int) (b : Bool) (h : mayB op rd rs1 rs2 imm = b) (h0 : -2147483648 ≤ imm) (h1 : imm ≤ 2147483647) (w : World) :
    Calls Tryz.prog 74 #[.agg #[.int .i64 op, .int .i64 rd, .int .i64 rs1, .int .i64 rs2, .int .i32 imm]] w fun e w' => e = .returned (.bool b) ∧ Nx w w' := by
  rw [← h]
  exact rmay_any op rd rs1 rs2 imm w h0 h1

set_option maxHeartbeats 4000000 in
set_option maxRecDepth 100000 in
theorem could_any (s : List UInt8) (op rd rs1 rs2 imm : Int) (h : fitS (B s) op rd rs1 rs2 0 = true) (w : World) :
    Calls Tryz.prog 77 #[.string (B s), .agg #[.int .i64 op, .int .i64 rd, .int .i64 rs1, .int .i64 rs2, .int .i32 imm]] w fun e w' => e = .returned (.bool true) ∧ Nx w w' := by
  have HZ := Lib.hid h
  clear h
  go_enter Tryz.func77, Tryz.ntmps77
  go_wp2
  go_loopw [5] (fun iv wr => ∃ v m : Int, -64 ≤ v ∧ v ≤ 0 ∧ iv = .int .i32 v ∧ Has wr w.heap.size (insO ⟨op, rd, rs1, rs2, m⟩) ∧ Nx w wr) (fun iv _ => (1 - intOf iv).toNat)
  case atStart => exact ⟨-64, imm, by omega, by omega, rfl, Has.new w _, (Nx.refl w).alloc _⟩
  case round =>
    obtain ⟨v, m, hv0, hv1, rfl, hh, hn⟩ := hrel
    have HH := Lib.hid hh
    have HN := Lib.hid hn
    have r0 := hh.cell 0 _ rfl
    have r1 := hh.cell 1 _ rfl
    have r2 := hh.cell 2 _ rfl
    have r3 := hh.cell 3 _ rfl
    have r4 := hh.cell 4 _ rfl
    have f4 := hh.free 4
    have hz := hh.lt
    have hle : v ≤ 4096 := by omega
    clear hh hn
    cases hb : fitS (B s) op rd rs1 rs2 v
    · have hv : v ≠ 0 := by
        rintro rfl
        rw [HZ.out] at hb
        cases hb
      have CF := Lib.hid (fits_at s op rd rs1 rs2 v false hb (by omega) (by omega))
      clear hb
      go_wp2_with fail
      refine (CF.out _).mono ?_
      rintro e w2 ⟨rfl, hn2⟩
      have HH2 := Lib.hid ((HH.out.put 4 (.int .i32 v)).nx hn2)
      have HN2 := Lib.hid ((HN.out.setCell (p := ⟨w.heap.size, 4, none⟩) (Nat.le_refl _) (.int .i32 v)).trans hn2)
      clear hn2
      go_wp2
      go_roundw
      case rel => exact ⟨v + 1, v, by omega, by omega, rfl, HH2.out, HN2.out⟩
      case measure => simp [intOf]; omega
    · have CF := Lib.hid (fits_at s op rd rs1 rs2 v true hb (by omega) (by omega))
      clear hb
      go_wp2_with fail
      refine (CF.out _).mono ?_
      rintro e w2 ⟨rfl, hn2⟩
      have HN2 := Lib.hid ((HN.out.setCell (p := ⟨w.heap.size, 4, none⟩) (Nat.le_refl _) (.int .i32 v)).trans hn2)
      clear hn2
      go_wp2
      go_ret
      exact ⟨rfl, HN2.out⟩

/-- An item. -/
abbrev itV (kd ln cl : Int) (nm : List UInt8) (i : In5) (s : List UInt8) (sz : Int) (nv : Value) (num : Int) (a b : Bool) : Value :=
  .agg #[.int .i64 kd, .int .i64 ln, .int .i64 cl, .string (B nm), .int .i64 i.op, .int .i64 i.rd, .int .i64 i.rs1, .int .i64 i.rs2, .int .i32 i.imm, .string (B s), .int .i64 sz, nv, .int .u32 num, .bool a, .bool b]

abbrev itC (kd ln cl : Int) (nm : List UInt8) (i : In5) (s : List UInt8) (sz : Int) (nv : Value) (num : Int) (a b : Bool) : List Value :=
  [.int .i64 kd, .int .i64 ln, .int .i64 cl, .string (B nm), .int .i64 i.op, .int .i64 i.rd, .int .i64 i.rs1, .int .i64 i.rs2, .int .i32 i.imm, .string (B s), .int .i64 sz, nv, .int .u32 num, .bool a, .bool b]

def szS (s : List UInt8) : Int := if s = [] then 4 else 2

def RetIt (v : Value) (w : World) (e : Ending) (w' : World) : Prop := e = .returned (.tuple #[v, .bool true]) ∧ Nx w w'

/-- Three boxes. -/
theorem three_has {w w2 : World} {A0 A1 A2 : Obj} (h : Nx (((w.alloc A0).alloc A1).alloc A2) w2) : Has w2 w.heap.size A0 ∧ Has w2 (w.heap.size + 1) A1 ∧ Has w2 (w.heap.size + 1 + 1) A2 ∧ Nx w w2 :=
  ⟨Has.nx (((Has.new w A0).alloc A1).alloc A2) h, Has.nx ((Has.at_ (w.alloc A0) A1 (by simp)).alloc A2) h, Has.nx (Has.at_ _ _ (by simp)) h, Nx.trans ((((Nx.refl w).alloc _).alloc _).alloc _) h⟩

set_option maxHeartbeats 8000000 in
set_option maxRecDepth 100000 in
theorem known_plain (op rd rs1 rs2 imm : Int) (h : mayB op rd rs1 rs2 imm = true) (h0 : -2147483648 ≤ imm) (h1 : imm ≤ 2147483647) (w : World) :
    Calls Tryz.prog 47 #[insV ⟨op, rd, rs1, rs2, imm⟩, .string (B []), optV true false] w (RetIt (itV 2 0 0 [] ⟨op, rd, rs1, rs2, imm⟩ [] 4 (.slice none 0 0) 0 false false) w) := by
  have CM := Lib.hid (may_at op rd rs1 rs2 imm true h h0 h1)
  have le2 : w.heap.size ≤ w.heap.size + 1 + 1 := by omega
  clear h h0 h1
  go_enter Tryz.func47, Tryz.ntmps47
  go_wp2_with fail
  refine (CM.out _).mono ?_
  rintro e w2 ⟨rfl, hn2⟩
  obtain ⟨k0, k1, k2, hx⟩ := three_has hn2
  clear hn2
  have K0 := Lib.hid k0
  have K1 := Lib.hid k1
  have K2 := Lib.hid k2
  have HX := Lib.hid hx
  clear k0 k1 k2 hx
  have ac0 := K0.out.cell 0 _ rfl
  have af0 := K0.out.free 0
  have ac1 := K0.out.cell 1 _ rfl
  have af1 := K0.out.free 1
  have ac2 := K0.out.cell 2 _ rfl
  have af2 := K0.out.free 2
  have ac3 := K0.out.cell 3 _ rfl
  have af3 := K0.out.free 3
  have ac4 := K0.out.cell 4 _ rfl
  have af4 := K0.out.free 4
  have az := K0.out.lt
  have bc0 := K1.out.cell 0 _ rfl
  have bf0 := K1.out.free 0
  have bc1 := K1.out.cell 1 _ rfl
  have bf1 := K1.out.free 1
  have bz := K1.out.lt
  have rc0 := K2.out.cell 0 _ rfl
  have rf0 := K2.out.free 0
  have rc1 := K2.out.cell 1 _ rfl
  have rf1 := K2.out.free 1
  have rc2 := K2.out.cell 2 _ rfl
  have rf2 := K2.out.free 2
  have rc3 := K2.out.cell 3 _ rfl
  have rf3 := K2.out.free 3
  have rc4 := K2.out.cell 4 _ rfl
  have rf4 := K2.out.free 4
  have rc5 := K2.out.cell 5 _ rfl
  have rf5 := K2.out.free 5
  have rc6 := K2.out.cell 6 _ rfl
  have rf6 := K2.out.free 6
  have rc7 := K2.out.cell 7 _ rfl
  have rf7 := K2.out.free 7
  have rc8 := K2.out.cell 8 _ rfl
  have rf8 := K2.out.free 8
  have rc9 := K2.out.cell 9 _ rfl
  have rf9 := K2.out.free 9
  have rc10 := K2.out.cell 10 _ rfl
  have rf10 := K2.out.free 10
  have rc11 := K2.out.cell 11 _ rfl
  have rf11 := K2.out.free 11
  have rc12 := K2.out.cell 12 _ rfl
  have rf12 := K2.out.free 12
  have rc13 := K2.out.cell 13 _ rfl
  have rf13 := K2.out.free 13
  have rc14 := K2.out.cell 14 _ rfl
  have rf14 := K2.out.free 14
  have rz := K2.out.lt
  go_wp2
  refine bodyPost_ret (v := .tuple #[itV 2 0 0 [] ⟨op, rd, rs1, rs2, imm⟩ [] 4 (.slice none 0 0) 0 false false, .bool true]) (by simp [results, Tryz.results47, go_sem, rc0, rf0, rc1, rf1, rc2, rf2, rc3, rf3, rc4, rf4, rc5, rf5, rc6, rf6, rc7, rf7, rc8, rf8, rc9, rf9, rc10, rf10, rc11, rf11, rc12, rf12, rc13, rf13, rc14, rf14, rz]) rfl ?_
  exact ⟨rfl, by repeat (with_reducible first | exact HX.out | refine Nx.alloc ?_ _ | refine Nx.setCell ?_ le2 _)⟩

set_option maxHeartbeats 8000000 in
set_option maxRecDepth 100000 in
theorem known_short (op rd rs1 rs2 imm : Int) (s : List UInt8) (hs : s ≠ []) (hf : fitS (B s) op rd rs1 rs2 imm = true) (h : mayB op rd rs1 rs2 imm = true) (h0 : -2147483648 ≤ imm) (h1 : imm ≤ 2147483647) (w : World) :
    Calls Tryz.prog 47 #[insV ⟨op, rd, rs1, rs2, imm⟩, .string (B s), optV true false] w (RetIt (itV 2 0 0 [] ⟨op, rd, rs1, rs2, imm⟩ s 2 (.slice none 0 0) 0 false false) w) := by
  have CM := Lib.hid (may_at op rd rs1 rs2 imm true h h0 h1)
  have CF := Lib.hid (fits_at s op rd rs1 rs2 imm true hf h0 h1)
  have b1 : (s != []) = true := by simpa using hs
  have b2 : (s == []) = false := by simpa using hs
  clear hs hf
  have le2 : w.heap.size ≤ w.heap.size + 1 + 1 := by omega
  clear h h0 h1
  go_enter Tryz.func47, Tryz.ntmps47
  go_wp2_with fail
  refine (CM.out _).mono ?_
  rintro e w2 ⟨rfl, hn2⟩
  obtain ⟨k0, k1, k2, hx⟩ := three_has hn2
  clear hn2
  have K0 := Lib.hid k0
  have K1 := Lib.hid k1
  have K2 := Lib.hid k2
  have HX := Lib.hid hx
  clear k0 k1 k2 hx
  have ac0 := K0.out.cell 0 _ rfl
  have af0 := K0.out.free 0
  have ac1 := K0.out.cell 1 _ rfl
  have af1 := K0.out.free 1
  have ac2 := K0.out.cell 2 _ rfl
  have af2 := K0.out.free 2
  have ac3 := K0.out.cell 3 _ rfl
  have af3 := K0.out.free 3
  have ac4 := K0.out.cell 4 _ rfl
  have af4 := K0.out.free 4
  have az := K0.out.lt
  go_wp2_with fail
  refine (CF.out _).mono ?_
  rintro e w3 ⟨rfl, hn3⟩
  have K0 := Lib.hid (K0.out.nx hn3)
  have K1 := Lib.hid (K1.out.nx hn3)
  have K2 := Lib.hid (K2.out.nx hn3)
  have HX := Lib.hid (HX.out.trans hn3)
  clear hn3 ac0 af0 ac1 af1 ac2 af2 ac3 af3 ac4 af4 az
  have ac0 := K0.out.cell 0 _ rfl
  have af0 := K0.out.free 0
  have ac1 := K0.out.cell 1 _ rfl
  have af1 := K0.out.free 1
  have ac2 := K0.out.cell 2 _ rfl
  have af2 := K0.out.free 2
  have ac3 := K0.out.cell 3 _ rfl
  have af3 := K0.out.free 3
  have ac4 := K0.out.cell 4 _ rfl
  have af4 := K0.out.free 4
  have az := K0.out.lt
  have bc0 := K1.out.cell 0 _ rfl
  have bf0 := K1.out.free 0
  have bc1 := K1.out.cell 1 _ rfl
  have bf1 := K1.out.free 1
  have bz := K1.out.lt
  have rc0 := K2.out.cell 0 _ rfl
  have rf0 := K2.out.free 0
  have rc1 := K2.out.cell 1 _ rfl
  have rf1 := K2.out.free 1
  have rc2 := K2.out.cell 2 _ rfl
  have rf2 := K2.out.free 2
  have rc3 := K2.out.cell 3 _ rfl
  have rf3 := K2.out.free 3
  have rc4 := K2.out.cell 4 _ rfl
  have rf4 := K2.out.free 4
  have rc5 := K2.out.cell 5 _ rfl
  have rf5 := K2.out.free 5
  have rc6 := K2.out.cell 6 _ rfl
  have rf6 := K2.out.free 6
  have rc7 := K2.out.cell 7 _ rfl
  have rf7 := K2.out.free 7
  have rc8 := K2.out.cell 8 _ rfl
  have rf8 := K2.out.free 8
  have rc9 := K2.out.cell 9 _ rfl
  have rf9 := K2.out.free 9
  have rc10 := K2.out.cell 10 _ rfl
  have rf10 := K2.out.free 10
  have rc11 := K2.out.cell 11 _ rfl
  have rf11 := K2.out.free 11
  have rc12 := K2.out.cell 12 _ rfl
  have rf12 := K2.out.free 12
  have rc13 := K2.out.cell 13 _ rfl
  have rf13 := K2.out.free 13
  have rc14 := K2.out.cell 14 _ rfl
  have rf14 := K2.out.free 14
  have rz := K2.out.lt
  go_wp2
  refine bodyPost_ret (v := .tuple #[itV 2 0 0 [] ⟨op, rd, rs1, rs2, imm⟩ s 2 (.slice none 0 0) 0 false false, .bool true]) (by simp [results, Tryz.results47, go_sem, rc0, rf0, rc1, rf1, rc2, rf2, rc3, rf3, rc4, rf4, rc5, rf5, rc6, rf6, rc7, rf7, rc8, rf8, rc9, rf9, rc10, rf10, rc11, rf11, rc12, rf12, rc13, rf13, rc14, rf14, rz]) rfl ?_
  exact ⟨rfl, by repeat (with_reducible first | exact HX.out | refine Nx.alloc ?_ _ | refine Nx.setCell ?_ le2 _)⟩

end Go.Proofs.YtdgmdkkockbkjaaGreatDoor

