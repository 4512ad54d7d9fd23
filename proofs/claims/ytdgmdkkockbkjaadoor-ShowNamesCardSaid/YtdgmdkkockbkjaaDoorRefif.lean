/- Contracts of package typecaseref09: Fits whole. -/
import Derived.Test.YtdgmdkkockbkjaaDoorRefib
import Derived.Test.YtdgmdkkockbkjaaDoorRefic
import Derived.Test.YtdgmdkkockbkjaaDoorRefid
import Derived.Test.YtdgmdkkockbkjaaDoorRefie
import Derived.Test.YtdgmdkkockbkjaaDoorRefil
namespace Go.Proofs.YtdgmdkkockbkjaaDoor
open Go.RowKit
set_option linter.unusedVariables false
set_option linter.unusedSimpArgs false

set_option maxRecDepth 100000 in
set_option maxHeartbeats 1000000 in
theorem rfit_may (nm : ByteArray) (op rd rs1 rs2 imm : Int) (w : World) (hv : -2147483648 ≤ imm) (hv' : imm ≤ 2147483647) (h : mayB op rd rs1 rs2 imm = false) :
    Calls Tryd.prog 19 #[.string nm, .agg #[.int .i64 op, .int .i64 rd, .int .i64 rs1, .int .i64 rs2, .int .i32 imm]] w fun e w' => e = .returned (.bool false) ∧ Nx w w' := by
  go_enter Tryd.func19, Tryd.ntmps19
  go_wp2_with fail
  refine (rmay_any _ _ _ _ _ _ hv hv').mono ?_
  rintro e w1 ⟨rfl, hn1⟩
  rw [h]
  have HN := Lib.hid (((Nx.refl w).alloc _).trans hn1)
  clear hn1
  go_wp2
  go_ret
  exact ⟨rfl, HN.out⟩

set_option maxRecDepth 100000 in
set_option maxHeartbeats 4000000 in
theorem rfit_other (nm : ByteArray) (k : Nat) (s : List UInt8) (rd rs1 rs2 imm : Int) (w : World) (hv : -2147483648 ≤ imm) (hv' : imm ≤ 2147483647) (hs : nmB[k]? = some s) (hk : k < 49) (h : mayB k rd rs1 rs2 imm = true)
    (e0 : (nm.toList == [99, 46, 97, 100, 100, 105, 52, 115, 112, 110]) = false) (e1 : (nm.toList == [99, 46, 108, 119]) = false) (e2 : (nm.toList == [99, 46, 115, 119]) = false) (e3 : (nm.toList == [99, 46, 110, 111, 112]) = false) (e4 : (nm.toList == [99, 46, 97, 100, 100, 105]) = false) (e5 : (nm.toList == [99, 46, 106, 97, 108]) = false) (e6 : (nm.toList == [99, 46, 108, 105]) = false) (e7 : (nm.toList == [99, 46, 97, 100, 100, 105, 49, 54, 115, 112]) = false) (e8 : (nm.toList == [99, 46, 108, 117, 105]) = false) (e9 : (nm.toList == [99, 46, 115, 114, 108, 105]) = false) (e10 : (nm.toList == [99, 46, 115, 114, 97, 105]) = false) (e11 : (nm.toList == [99, 46, 97, 110, 100, 105]) = false) (e12 : (nm.toList == [99, 46, 115, 117, 98]) = false) (e13 : (nm.toList == [99, 46, 120, 111, 114]) = false) (e14 : (nm.toList == [99, 46, 111, 114]) = false) (e15 : (nm.toList == [99, 46, 97, 110, 100]) = false) (e16 : (nm.toList == [99, 46, 106]) = false) (e17 : (nm.toList == [99, 46, 98, 101, 113, 122]) = false) (e18 : (nm.toList == [99, 46, 98, 110, 101, 122]) = false) (e19 : (nm.toList == [99, 46, 115, 108, 108, 105]) = false) (e20 : (nm.toList == [99, 46, 108, 119, 115, 112]) = false) (e21 : (nm.toList == [99, 46, 106, 114]) = false) (e22 : (nm.toList == [99, 46, 109, 118]) = false) (e23 : (nm.toList == [99, 46, 101, 98, 114, 101, 97, 107]) = false) (e24 : (nm.toList == [99, 46, 106, 97, 108, 114]) = false) (e25 : (nm.toList == [99, 46, 97, 100, 100]) = false) (e26 : (nm.toList == [99, 46, 115, 119, 115, 112]) = false) :
    Calls Tryd.prog 19 #[.string nm, .agg #[.int .i64 k, .int .i64 rd, .int .i64 rs1, .int .i64 rs2, .int .i32 imm]] w fun e w' => e = .returned (.bool false) ∧ Nx w w' := by
  have HS := Lib.hid hs
  clear hs
  go_enter Tryd.func19, Tryd.ntmps19
  go_wp2_with fail
  refine (rmay_any _ _ _ _ _ _ hv hv').mono ?_
  rintro e w1 ⟨rfl, hn1⟩
  rw [h]
  obtain ⟨c0, c1, c2, c3, c4, hz⟩ := five_in hn1
  have HN := Lib.hid (((Nx.refl w).alloc _).trans hn1)
  clear hn1
  go_wp2
  go_region_with (go_at_call 10; refine (names_nm k s HS.out _).mono ?_; rintro e w2 ⟨g, rfl, hg, hn2⟩; have hn3 : Nx w1 w2 := Nx.trans ((Nx.refl _).drew) hn2; have d0 := hn3.cell c0)
  all_goals
    have d1 := hn3.cell c1
    have d2 := hn3.cell c2
    have d4 := hn3.cell c4
    have hz3 : w.heap.size < w2.heap.size := Nat.lt_of_lt_of_le hz hn3.size
    have HN3 := Lib.hid (HN.out.trans hn3)
    clear hn2 hn3 hg c0 c1 c2 c3 c4
    go_wp2
    go_ret
    exact ⟨rfl, HN3.out⟩

theorem rFits_any (nm : ByteArray) (op rd rs1 rs2 imm : Int) (w : World) (hv : -2147483648 ≤ imm) (hv' : imm ≤ 2147483647) :
    Calls Tryd.prog 19 #[.string nm, .agg #[.int .i64 op, .int .i64 rd, .int .i64 rs1, .int .i64 rs2, .int .i32 imm]] w fun e w' => e = .returned (.bool (rFitB nm.toList op rd rs1 rs2 imm)) ∧ Nx w w' := by
  unfold rFitB
  cases h : mayB op rd rs1 rs2 imm
  · rw [Bool.false_and]; exact rfit_may nm op rd rs1 rs2 imm w hv hv' h
  rw [Bool.true_and]
  obtain ⟨k, rfl, hk, hs⟩ := may_nm op rd rs1 rs2 imm h
  generalize nmB.getD ((k : Int)).toNat [] = s at *
  by_cases e0 : nm.toList = [99, 46, 97, 100, 100, 105, 52, 115, 112, 110]
  · rw [e0, bytes_eq e0]; exact rfit_0 k s rd rs1 rs2 imm w hv hv' hs hk h
  by_cases e1 : nm.toList = [99, 46, 108, 119]
  · rw [e1, bytes_eq e1]; exact rfit_1 k s rd rs1 rs2 imm w hv hv' hs hk h
  by_cases e2 : nm.toList = [99, 46, 115, 119]
  · rw [e2, bytes_eq e2]; exact rfit_2 k s rd rs1 rs2 imm w hv hv' hs hk h
  by_cases e3 : nm.toList = [99, 46, 110, 111, 112]
  · rw [e3, bytes_eq e3]; exact rfit_3 k s rd rs1 rs2 imm w hv hv' hs hk h
  by_cases e4 : nm.toList = [99, 46, 97, 100, 100, 105]
  · rw [e4, bytes_eq e4]; exact rfit_4 k s rd rs1 rs2 imm w hv hv' hs hk h
  by_cases e5 : nm.toList = [99, 46, 106, 97, 108]
  · rw [e5, bytes_eq e5]; exact rfit_5 k s rd rs1 rs2 imm w hv hv' hs hk h
  by_cases e6 : nm.toList = [99, 46, 108, 105]
  · rw [e6, bytes_eq e6]; exact rfit_6 k s rd rs1 rs2 imm w hv hv' hs hk h
  by_cases e7 : nm.toList = [99, 46, 97, 100, 100, 105, 49, 54, 115, 112]
  · rw [e7, bytes_eq e7]; exact rfit_7 k s rd rs1 rs2 imm w hv hv' hs hk h
  by_cases e8 : nm.toList = [99, 46, 108, 117, 105]
  · rw [e8, bytes_eq e8]; exact rfit_8 k s rd rs1 rs2 imm w hv hv' hs hk h
  by_cases e9 : nm.toList = [99, 46, 115, 114, 108, 105]
  · rw [e9, bytes_eq e9]; exact rfit_9 k s rd rs1 rs2 imm w hv hv' hs hk h
  by_cases e10 : nm.toList = [99, 46, 115, 114, 97, 105]
  · rw [e10, bytes_eq e10]; exact rfit_10 k s rd rs1 rs2 imm w hv hv' hs hk h
  by_cases e11 : nm.toList = [99, 46, 97, 110, 100, 105]
  · rw [e11, bytes_eq e11]; exact rfit_11 k s rd rs1 rs2 imm w hv hv' hs hk h
  by_cases e12 : nm.toList = [99, 46, 115, 117, 98]
  · rw [e12, bytes_eq e12]; exact rfit_12 k s rd rs1 rs2 imm w hv hv' hs hk h
  by_cases e13 : nm.toList = [99, 46, 120, 111, 114]
  · rw [e13, bytes_eq e13]; exact rfit_13 k s rd rs1 rs2 imm w hv hv' hs hk h
  by_cases e14 : nm.toList = [99, 46, 111, 114]
  · rw [e14, bytes_eq e14]; exact rfit_14 k s rd rs1 rs2 imm w hv hv' hs hk h
  by_cases e15 : nm.toList = [99, 46, 97, 110, 100]
  · rw [e15, bytes_eq e15]; exact rfit_15 k s rd rs1 rs2 imm w hv hv' hs hk h
  by_cases e16 : nm.toList = [99, 46, 106]
  · rw [e16, bytes_eq e16]; exact rfit_16 k s rd rs1 rs2 imm w hv hv' hs hk h
  by_cases e17 : nm.toList = [99, 46, 98, 101, 113, 122]
  · rw [e17, bytes_eq e17]; exact rfit_17 k s rd rs1 rs2 imm w hv hv' hs hk h
  by_cases e18 : nm.toList = [99, 46, 98, 110, 101, 122]
  · rw [e18, bytes_eq e18]; exact rfit_18 k s rd rs1 rs2 imm w hv hv' hs hk h
  by_cases e19 : nm.toList = [99, 46, 115, 108, 108, 105]
  · rw [e19, bytes_eq e19]; exact rfit_19 k s rd rs1 rs2 imm w hv hv' hs hk h
  by_cases e20 : nm.toList = [99, 46, 108, 119, 115, 112]
  · rw [e20, bytes_eq e20]; exact rfit_20 k s rd rs1 rs2 imm w hv hv' hs hk h
  by_cases e21 : nm.toList = [99, 46, 106, 114]
  · rw [e21, bytes_eq e21]; exact rfit_21 k s rd rs1 rs2 imm w hv hv' hs hk h
  by_cases e22 : nm.toList = [99, 46, 109, 118]
  · rw [e22, bytes_eq e22]; exact rfit_22 k s rd rs1 rs2 imm w hv hv' hs hk h
  by_cases e23 : nm.toList = [99, 46, 101, 98, 114, 101, 97, 107]
  · rw [e23, bytes_eq e23]; exact rfit_23 k s rd rs1 rs2 imm w hv hv' hs hk h
  by_cases e24 : nm.toList = [99, 46, 106, 97, 108, 114]
  · rw [e24, bytes_eq e24]; exact rfit_24 k s rd rs1 rs2 imm w hv hv' hs hk h
  by_cases e25 : nm.toList = [99, 46, 97, 100, 100]
  · rw [e25, bytes_eq e25]; exact rfit_25 k s rd rs1 rs2 imm w hv hv' hs hk h
  by_cases e26 : nm.toList = [99, 46, 115, 119, 115, 112]
  · rw [e26, bytes_eq e26]; exact rfit_26 k s rd rs1 rs2 imm w hv hv' hs hk h
  have e : refB nm.toList s rd rs1 rs2 imm = false := by
    have hi : shB.idxOf nm.toList = 27 := List.idxOf_eq_length (by
      intro hm
      simp only [shB, List.mem_cons, List.not_mem_nil, or_false] at hm
      rcases hm with hm | hm | hm | hm | hm | hm | hm | hm | hm | hm | hm | hm | hm | hm | hm | hm | hm | hm | hm | hm | hm | hm | hm | hm | hm | hm | hm <;> contradiction)
    unfold refB
    rw [hi]
    rfl
  rw [e]
  exact rfit_other nm k s rd rs1 rs2 imm w hv hv' hs hk h (by simpa using e0) (by simpa using e1) (by simpa using e2) (by simpa using e3) (by simpa using e4) (by simpa using e5) (by simpa using e6) (by simpa using e7) (by simpa using e8) (by simpa using e9) (by simpa using e10) (by simpa using e11) (by simpa using e12) (by simpa using e13) (by simpa using e14) (by simpa using e15) (by simpa using e16) (by simpa using e17) (by simpa using e18) (by simpa using e19) (by simpa using e20) (by simpa using e21) (by simpa using e22) (by simpa using e23) (by simpa using e24) (by simpa using e25) (by simpa using e26)

end Go.Proofs.YtdgmdkkockbkjaaDoor
