/- Parts of the proof, one behind the other. -/
import Derived.Test.YtppnmaklggkogaaZab
import Derived.Test.YtppnmaklggkogaaZam
import Derived.Test.YtppnmaklggkogaaZan
import Derived.Test.YtppnmaklggkogaaZao
import Derived.Test.YtppnmaklggkogaaZap
import Derived.Test.YtppnmaklggkogaaZaq
import Derived.Test.YtppnmaklggkogaaZar
import Derived.Test.YtppnmaklggkogaaZas
import Derived.Test.YtppnmaklggkogaaZat
import Derived.Test.YtppnmaklggkogaaZau
/- Contracts of package typecaseref09: Fits whole. -/
namespace Go.Proofs.Ytppnmaklggkogaa
open Go.RowKit
set_option linter.unusedVariables false
set_option linter.unusedSimpArgs false

set_option maxRecDepth 100000 in
set_option maxHeartbeats 1000000 in
theorem rfit_may (nm : ByteArray) (op rd rs1 rs2 imm : Int) (w : World) (hv : -2147483648 ≤ imm) (hv' : imm ≤ 2147483647) (h : mayB op rd rs1 rs2 imm = false) :
    Calls Try.prog 11 #[.string nm, .agg #[.int .i64 op, .int .i64 rd, .int .i64 rs1, .int .i64 rs2, .int .i32 imm]] w fun e w' => e = .returned (.bool false) ∧ Nx w w' := by
  go_enter Try.func11, Try.ntmps11
  go_wp2_with fail
  refine (rmay_any _ _ _ _ _ _ hv hv').mono ?_
  rintro e w1 ⟨rfl, hn1⟩
  rw [h]
  have HN := Lib.hid (((Nx.refl w).alloc _).trans hn1)
  clear hn1
  go_wp2
  go_ret
  exact ⟨rfl, HN.out⟩

set_option maxRecDepth 100000 in
set_option maxHeartbeats 4000000 in
theorem rfit_other (nm : ByteArray) (k : Nat) (s : List UInt8) (rd rs1 rs2 imm : Int) (w : World) (hv : -2147483648 ≤ imm) (hv' : imm ≤ 2147483647) (hs : nmB[k]? = some s) (hk : k < 49) (h : mayB k rd rs1 rs2 imm = true)
    (e0 : (nm.toList == [99, 46, 97, 100, 100, 105, 52, 115, 112, 110]) = false) (e1 : (nm.toList == [99, 46, 108, 119]) = false) (e2 : (nm.toList == [99, 46, 115, 119]) = false) (e3 : (nm.toList == [99, 46, 110, 111, 112]) = false) (e4 : (nm.toList == [99, 46, 97, 100, 100, 105]) = false) (e5 : (nm.toList == [99, 46, 106, 97, 108]) = false) (e6 : (nm.toList == [99, 46, 108, 105]) = false) (e7 : (nm.toList == [99, 46, 97, 100, 100, 105, 49, 54, 115, 112]) = false) (e8 : (nm.toList == [99, 46, 108, 117, 105]) = false) (e9 : (nm.toList == [99, 46, 115, 114, 108, 105]) = false) (e10 : (nm.toList == [99, 46, 115, 114, 97, 105]) = false) (e11 : (nm.toList == [99, 46, 97, 110, 100, 105]) = false) (e12 : (nm.toList == [99, 46, 115, 117, 98]) = false) (e13 : (nm.toList == [99, 46, 120, 111, 114]) = false) (e14 : (nm.toList == [99, 46, 111, 114]) = false) (e15 : (nm.toList == [99, 46, 97, 110, 100]) = false) (e16 : (nm.toList == [99, 46, 106]) = false) (e17 : (nm.toList == [99, 46, 98, 101, 113, 122]) = false) (e18 : (nm.toList == [99, 46, 98, 110, 101, 122]) = false) (e19 : (nm.toList == [99, 46, 115, 108, 108, 105]) = false) (e20 : (nm.toList == [99, 46, 108, 119, 115, 112]) = false) (e21 : (nm.toList == [99, 46, 106, 114]) = false) (e22 : (nm.toList == [99, 46, 109, 118]) = false) (e23 : (nm.toList == [99, 46, 101, 98, 114, 101, 97, 107]) = false) (e24 : (nm.toList == [99, 46, 106, 97, 108, 114]) = false) (e25 : (nm.toList == [99, 46, 97, 100, 100]) = false) (e26 : (nm.toList == [99, 46, 115, 119, 115, 112]) = false) :
    Calls Try.prog 11 #[.string nm, .agg #[.int .i64 k, .int .i64 rd, .int .i64 rs1, .int .i64 rs2, .int .i32 imm]] w fun e w' => e = .returned (.bool false) ∧ Nx w w' := by
  have HS := Lib.hid hs
  clear hs
  go_enter Try.func11, Try.ntmps11
  go_wp2_with fail
  refine (rmay_any _ _ _ _ _ _ hv hv').mono ?_
  rintro e w1 ⟨rfl, hn1⟩
  rw [h]
  obtain ⟨c0, c1, c2, c3, c4, hz⟩ := five_in hn1
  have HN := Lib.hid (((Nx.refl w).alloc _).trans hn1)
  clear hn1
  go_wp2
  go_region_with (go_at_call 28; refine (names_nm k s HS.out _).mono ?_; rintro e w2 ⟨g, rfl, hg, hn2⟩; have hn3 : Nx w1 w2 := Nx.trans ((Nx.refl _).drew) hn2; have d0 := hn3.cell c0)
  all_goals
    have d1 := hn3.cell c1
    have d2 := hn3.cell c2
    have d4 := hn3.cell c4
    have hz3 : w.heap.size < w2.heap.size := Nat.lt_of_lt_of_le hz hn3.size
    have HN3 := Lib.hid (HN.out.trans hn3)
    clear hn2 hn3 hg c0 c1 c2 c3 c4
    go_wp2
    go_ret
    exact ⟨rfl, HN3.out⟩

theorem rFits_any (nm : ByteArray) (op rd rs1 rs2 imm : Int) (w : World) (hv : -2147483648 ≤ imm) (hv' : imm ≤ 2147483647) :
    Calls Try.prog 11 #[.string nm, .agg #[.int .i64 op, .int .i64 rd, .int .i64 rs1, .int .i64 rs2, .int .i32 imm]] w fun e w' => e = .returned (.bool (rFitB nm.toList op rd rs1 rs2 imm)) ∧ Nx w w' := by
  unfold rFitB
  cases h : mayB op rd rs1 rs2 imm
  · rw [Bool.false_and]; exact rfit_may nm op rd rs1 rs2 imm w hv hv' h
  rw [Bool.true_and]
  obtain ⟨k, rfl, hk, hs⟩ := may_nm op rd rs1 rs2 imm h
  generalize nmB.getD ((k : Int)).toNat [] = s at *
  by_cases e0 : nm.toList = [99, 46, 97, 100, 100, 105, 52, 115, 112, 110]
  · rw [e0, bytes_eq e0]; exact rfit_0 k s rd rs1 rs2 imm w hv hv' hs hk h
  by_cases e1 : nm.toList = [99, 46, 108, 119]
  · rw [e1, bytes_eq e1]; exact rfit_1 k s rd rs1 rs2 imm w hv hv' hs hk h
  by_cases e2 : nm.toList = [99, 46, 115, 119]
  · rw [e2, bytes_eq e2]; exact rfit_2 k s rd rs1 rs2 imm w hv hv' hs hk h
  by_cases e3 : nm.toList = [99, 46, 110, 111, 112]
  · rw [e3, bytes_eq e3]; exact rfit_3 k s rd rs1 rs2 imm w hv hv' hs hk h
  by_cases e4 : nm.toList = [99, 46, 97, 100, 100, 105]
  · rw [e4, bytes_eq e4]; exact rfit_4 k s rd rs1 rs2 imm w hv hv' hs hk h
  by_cases e5 : nm.toList = [99, 46, 106, 97, 108]
  · rw [e5, bytes_eq e5]; exact rfit_5 k s rd rs1 rs2 imm w hv hv' hs hk h
  by_cases e6 : nm.toList = [99, 46, 108, 105]
  · rw [e6, bytes_eq e6]; exact rfit_6 k s rd rs1 rs2 imm w hv hv' hs hk h
  by_cases e7 : nm.toList = [99, 46, 97, 100, 100, 105, 49, 54, 115, 112]
  · rw [e7, bytes_eq e7]; exact rfit_7 k s rd rs1 rs2 imm w hv hv' hs hk h
  by_cases e8 : nm.toList = [99, 46, 108, 117, 105]
  · rw [e8, bytes_eq e8]; exact rfit_8 k s rd rs1 rs2 imm w hv hv' hs hk h
  by_cases e9 : nm.toList = [99, 46, 115, 114, 108, 105]
  · rw [e9, bytes_eq e9]; exact rfit_9 k s rd rs1 rs2 imm w hv hv' hs hk h
  by_cases e10 : nm.toList = [99, 46, 115, 114, 97, 105]
  · rw [e10, bytes_eq e10]; exact rfit_10 k s rd rs1 rs2 imm w hv hv' hs hk h
  by_cases e11 : nm.toList = [99, 46, 97, 110, 100, 105]
  · rw [e11, bytes_eq e11]; exact rfit_11 k s rd rs1 rs2 imm w hv hv' hs hk h
  by_cases e12 : nm.toList = [99, 46, 115, 117, 98]
  · rw [e12, bytes_eq e12]; exact rfit_12 k s rd rs1 rs2 imm w hv hv' hs hk h
  by_cases e13 : nm.toList = [99, 46, 120, 111, 114]
  · rw [e13, bytes_eq e13]; exact rfit_13 k s rd rs1 rs2 imm w hv hv' hs hk h
  by_cases e14 : nm.toList = [99, 46, 111, 114]
  · rw [e14, bytes_eq e14]; exact rfit_14 k s rd rs1 rs2 imm w hv hv' hs hk h
  by_cases e15 : nm.toList = [99, 46, 97, 110, 100]
  · rw [e15, bytes_eq e15]; exact rfit_15 k s rd rs1 rs2 imm w hv hv' hs hk h
  by_cases e16 : nm.toList = [99, 46, 106]
  · rw [e16, bytes_eq e16]; exact rfit_16 k s rd rs1 rs2 imm w hv hv' hs hk h
  by_cases e17 : nm.toList = [99, 46, 98, 101, 113, 122]
  · rw [e17, bytes_eq e17]; exact rfit_17 k s rd rs1 rs2 imm w hv hv' hs hk h
  by_cases e18 : nm.toList = [99, 46, 98, 110, 101, 122]
  · rw [e18, bytes_eq e18]; exact rfit_18 k s rd rs1 rs2 imm w hv hv' hs hk h
  by_cases e19 : nm.toList = [99, 46, 115, 108, 108, 105]
  · rw [e19, bytes_eq e19]; exact rfit_19 k s rd rs1 rs2 imm w hv hv' hs hk h
  by_cases e20 : nm.toList = [99, 46, 108, 119, 115, 112]
  · rw [e20, bytes_eq e20]; exact rfit_20 k s rd rs1 rs2 imm w hv hv' hs hk h
  by_cases e21 : nm.toList = [99, 46, 106, 114]
  · rw [e21, bytes_eq e21]; exact rfit_21 k s rd rs1 rs2 imm w hv hv' hs hk h
  by_cases e22 : nm.toList = [99, 46, 109, 118]
  · rw [e22, bytes_eq e22]; exact rfit_22 k s rd rs1 rs2 imm w hv hv' hs hk h
  by_cases e23 : nm.toList = [99, 46, 101, 98, 114, 101, 97, 107]
  · rw [e23, bytes_eq e23]; exact rfit_23 k s rd rs1 rs2 imm w hv hv' hs hk h
  by_cases e24 : nm.toList = [99, 46, 106, 97, 108, 114]
  · rw [e24, bytes_eq e24]; exact rfit_24 k s rd rs1 rs2 imm w hv hv' hs hk h
  by_cases e25 : nm.toList = [99, 46, 97, 100, 100]
  · rw [e25, bytes_eq e25]; exact rfit_25 k s rd rs1 rs2 imm w hv hv' hs hk h
  by_cases e26 : nm.toList = [99, 46, 115, 119, 115, 112]
  · rw [e26, bytes_eq e26]; exact rfit_26 k s rd rs1 rs2 imm w hv hv' hs hk h
  have e : refB nm.toList s rd rs1 rs2 imm = false := by
    have hi : shB.idxOf nm.toList = 27 := List.idxOf_eq_length (by
      intro hm
      simp only [shB, List.mem_cons, List.not_mem_nil, or_false] at hm
      rcases hm with hm | hm | hm | hm | hm | hm | hm | hm | hm | hm | hm | hm | hm | hm | hm | hm | hm | hm | hm | hm | hm | hm | hm | hm | hm | hm | hm <;> contradiction)
    unfold refB
    rw [hi]
    rfl
  rw [e]
  exact rfit_other nm k s rd rs1 rs2 imm w hv hv' hs hk h (by simpa using e0) (by simpa using e1) (by simpa using e2) (by simpa using e3) (by simpa using e4) (by simpa using e5) (by simpa using e6) (by simpa using e7) (by simpa using e8) (by simpa using e9) (by simpa using e10) (by simpa using e11) (by simpa using e12) (by simpa using e13) (by simpa using e14) (by simpa using e15) (by simpa using e16) (by simpa using e17) (by simpa using e18) (by simpa using e19) (by simpa using e20) (by simpa using e21) (by simpa using e22) (by simpa using e23) (by simpa using e24) (by simpa using e25) (by simpa using e26)

end Go.Proofs.Ytppnmaklggkogaa

/- Contracts of package typecaseref09: Put. -/
namespace Go.Proofs.Ytppnmaklggkogaa
open Go.RowKit
set_option linter.unusedVariables false
set_option linter.unusedSimpArgs false

/-- The number's bits, from the lowest on, each laid at its place. -/
def layV : List Int → Int → Int → Int
  | [], v, h => h
  | p :: l, v, h => layV l (v / 2) (h + v % 2 * 2 ^ p.toNat)

def rPutB (l : List UInt8) (op rd rs1 rs2 imm : Int) : Int :=
  if rFitB l op rd rs1 rs2 imm = true then layV (plL.getD (shB.idxOf l) []).reverse ((imm + 4294967296) / unL.getD (shB.idxOf l) 1) (baseL.getD (shB.idxOf l) 0 + (rgL rd rs1 rs2).getD (shB.idxOf l) 0) % 65536 else 0

theorem rput_no (nm : ByteArray) (op rd rs1 rs2 imm : Int) (w : World) (hv : -2147483648 ≤ imm) (hv' : imm ≤ 2147483647) (hf : rFitB nm.toList op rd rs1 rs2 imm = false) :
    Calls Try.prog 10 #[.string nm, .agg #[.int .i64 op, .int .i64 rd, .int .i64 rs1, .int .i64 rs2, .int .i32 imm]] w fun e w' => e = .returned (.tuple #[.int .u16 0, .bool false]) ∧ Nx w w' := by
  go_enter Try.func10, Try.ntmps10
  go_wp2_with fail
  refine (rFits_any _ _ _ _ _ _ _ hv hv').mono ?_
  rintro e w1 ⟨rfl, hn1⟩
  rw [hf]
  have HN := Lib.hid (((Nx.refl w).alloc _).trans hn1)
  clear hn1
  go_wp2
  go_ret2
  exact ⟨rfl, HN.out⟩

theorem pow2_le (p : Int) (h : 0 ≤ p) (h' : p ≤ 12) : (2 : Int) ^ p.toNat ≤ 4096 := by
  have := pow_mono p.toNat 12 (by omega)
  have e : (2 : Int) ^ 12 = 4096 := by decide
  omega

set_option maxHeartbeats 2000000 in
theorem rput_yes (nm : List UInt8) (n : Nat) (l : List Int) (u b v op rd rs1 rs2 imm : Int) (w : World) (hv : -2147483648 ≤ imm) (hv' : imm ≤ 2147483647) (hf : rFitB (B nm).toList op rd rs1 rs2 imm = true)
    (h1 : 0 ≤ rd) (h1' : rd ≤ 31) (h2 : 0 ≤ rs1) (h2' : rs1 ≤ 31) (h3 : 0 ≤ rs2) (h3' : rs2 ≤ 31)
    (hn : shB[n]? = some nm) (hl : plL[n]? = some l) (hu : unL[n]? = some u) (hb : baseL[n]? = some b) (hr : (rgL rd rs1 rs2)[n]? = some v) (hl11 : l.length ≤ 11) (hlp : ∀ p ∈ l, 0 ≤ p ∧ p ≤ 12) (hu0 : 0 < u) (hu1 : u ≤ 4096) (hb0 : 0 ≤ b) (hb1 : b ≤ 65536) (hv0 : -4096 ≤ v) (hv1 : v ≤ 65536) :
    Calls Try.prog 10 #[.string (B nm), .agg #[.int .i64 op, .int .i64 rd, .int .i64 rs1, .int .i64 rs2, .int .i32 imm]] w fun e w' => e = .returned (.tuple #[.int .u16 (layV l.reverse ((imm + 4294967296) / u) (b + v) % 65536), .bool true]) ∧ Nx w w' := by
  have CF := Lib.hid (fun w => frame_at nm n b w hn hb)
  have CR := Lib.hid (fun w => regs_at n nm v op rd rs1 rs2 imm w h1 h1' h2 h2' h3 h3' hn hr)
  have CP := Lib.hid (fun w => places_at n nm l u w hn hl hu)
  have HLP := Lib.hid hlp
  obtain ⟨V, hV⟩ : ∃ V, V = layV l.reverse ((imm + 4294967296) / u) (b + v) := ⟨_, rfl⟩
  rw [← hV]
  have HV := Lib.hid hV
  clear hn hl hu hb hr hlp hV
  go_enter Try.func10, Try.ntmps10
  go_wp2_with fail
  refine (rFits_any _ _ _ _ _ _ _ hv hv').mono ?_
  rintro e w1 ⟨rfl, hn1⟩
  rw [hf]
  obtain ⟨c0, c1, c2, c3, c4, hz⟩ := five_in hn1
  have HN := Lib.hid (((Nx.refl w).alloc _).trans hn1)
  clear hn1 hf
  go_wp2
  (refine wp_region_nx 5 (by kernel_rfl) (by kernel_rfl) ?_; simp only [List.take_succ_cons, List.take_zero, List.drop_succ_cons, List.drop_zero]; (repeat (refine wpQuiet_step (fun K hK => ?_); go_simp; first | (refine hK _ ?_; clear hK K) | (apply Exists.intro; refine ⟨fun w' hw' => ?_, hK _ ?_⟩; (first | (with_reducible rfl) | (go_at_call 24; with_reducible exact (CF.out _).mono fun _ _ h => ⟨h.1, hw'.trans h.2⟩) | (go_at_call 25; with_reducible exact (CR.out _).mono fun _ _ h => ⟨h.1, hw'.trans h.2⟩) | (obtain ⟨hc, hf⟩ := nx_cells hw'; go_simp; with_reducible rfl) | (obtain ⟨hc, hf⟩ := nx_cells hw'; go_simp; rfl)); clear hK K))); refine wpQuiet_nil ?_; intro w2 hn2)
  have HN2 := Lib.hid (HN.out.trans hn2)
  have d4 := hn2.cell c4
  have hz2 : w.heap.size < w2.heap.size := Nat.lt_of_lt_of_le hz hn2.size
  clear hn2 c0 c1 c2 c3 c4
  go_wp2_with fail
  refine (CP.out _).mono ?_
  rintro e w3 ⟨A, c, rfl, hA, hn3⟩
  have HA := Lib.hid hA
  have HN3 := Lib.hid (HN2.out.trans hn3)
  have k4 := hn3.cell d4
  have hz3 : w.heap.size < w3.heap.size := Nat.lt_of_lt_of_le hz2 hn3.size
  have k8 : ¬ u = 0 := by omega
  have k9 : ¬ u = -1 := by omega
  have hq0 : 0 ≤ (imm + 4294967296) / u := Int.ediv_nonneg (by omega) (by omega)
  have hq1 : (imm + 4294967296) / u ≤ 8589934592 := by
    have : (imm + 4294967296) / u ≤ imm + 4294967296 := Int.ediv_le_self _ (by omega)
    omega
  clear hA hn3
  go_wp2
  go_loopg [6, 9, 10] l.length (fun gg h v i wy => ∃ (hh vv x : Int), w3 = wy ∧ gg ≤ l.length ∧ x + 1 = gg ∧ i = .int .i64 x ∧ h = .int .i64 hh ∧ v = .int .i64 vv ∧ 0 ≤ vv ∧ vv ≤ 8589934592 ∧ -4096 ≤ hh ∧ hh ≤ 131072 + 4096 * ((l.length : Int) - gg) ∧ Hid (layV (l.reverse.drop (l.length - gg)) vv hh = V))
  case atStart => exact ⟨_, _, _, rfl, Nat.le_refl _, by omega, rfl, rfl, rfl, hq0, hq1, by omega, by omega, Lib.hid (by rw [HV.out]; simp)⟩
  case round =>
    obtain ⟨hh, vv, x, rfl, hgl, hx, rfl, rfl, rfl, v0, v1, g0, g1, HL⟩ := hrel
    cases gk with
    | zero =>
      have hV : hh = V := by have := HL.out; rw [List.drop_of_length_le (by simp)] at this; exact this
      have HVV := Lib.hid hV
      clear hV
      obtain rfl : x = -1 := by omega
      go_wp2
      go_ret2
      exact ⟨by rw [← HVV.out]; rfl, HN3.out⟩
    | succ r =>
      obtain rfl : x = (r : Int) := by omega
      obtain ⟨p, hp⟩ : ∃ p, l[r]? = some p := ⟨_, List.getElem?_eq_getElem (by omega)⟩
      obtain ⟨g, rfl, hc⟩ := HA.out r p hp
      obtain ⟨p0, p1⟩ := HLP.out p (List.mem_of_getElem? hp)
      have hd : l.reverse.drop (l.length - (r + 1)) = p :: l.reverse.drop (l.length - r) := by
        have h1 : l.reverse[l.length - (r + 1)]? = some p := by rw [List.getElem?_reverse (by omega)]; rw [← hp]; congr 1; omega
        obtain ⟨hk, e⟩ := List.getElem?_eq_some_iff.1 h1
        rw [List.drop_eq_getElem_cons hk, e]
        congr 2
        omega
      rw [hd] at HL
      have HL2 := Lib.hid (show layV (l.reverse.drop (l.length - r)) (vv / 2) (hh + vv % 2 * 2 ^ p.toNat) = V from HL.out)
      have HPB := Lib.hid (pow2_le p p0 p1)
      clear hp hd HL
      have b0 : 0 ≤ vv % 2 := by omega
      have b1 : vv % 2 ≤ 1 := by omega
      go_wp2
      have HB2 : Hid (vv % 2 * 2 ^ p.toNat ≤ 4096) := Lib.hid (by
        have h1 : vv % 2 * 2 ^ p.toNat ≤ 1 * 2 ^ p.toNat := Int.mul_le_mul_of_nonneg_right b1 (Int.le_of_lt (pow_pos' _))
        have h2 := HPB.out
        omega)
      obtain ⟨Q, hQ⟩ : ∃ Q, Q = vv % 2 * 2 ^ p.toNat := ⟨_, rfl⟩
      have HQ := Lib.hid hQ
      rw [← hQ] at HL2 HB2
      have hQ0 : 0 ≤ Q := by rw [hQ]; exact Int.mul_nonneg b0 (Int.le_of_lt (pow_pos' _))
      have hQ1 := HB2.out
      clear hQ HPB HB2
      go_loopg [11, 12] p.toNat (fun g2 bit j wy => ∃ (jj : Nat) (t : Int), w3 = wy ∧ jj + g2 = p.toNat ∧ j = .int .i64 jj ∧ bit = .int .i64 t ∧ 0 ≤ t ∧ t ≤ 4096 ∧ Hid (t * 2 ^ g2 = Q))
      case atStart => exact ⟨0, _, rfl, by omega, rfl, rfl, b0, by omega, Lib.hid HQ.out.symm⟩
      case round =>
        obtain ⟨jj, t, rfl, hjj, rfl, rfl, t0, t1, HT⟩ := hrel
        cases gk with
        | zero =>
          have hjp : ¬ (jj : Int) < p := by omega
          have htq : t = Q := by have := HT.out; simpa using this
          subst htq
          clear HT
          go_wp2
          go_roundg r
          case measure => omega
          case rel => exact ⟨_, _, (r : Int) - 1, rfl, by omega, by omega, rfl, rfl, rfl, by omega, by omega, by omega, by omega, HL2⟩
        | succ g2 =>
          have hjp : (jj : Int) < p := by omega
          have e2 : (2 * t) * 2 ^ g2 = Q := by rw [← HT.out, Int.pow_succ, Int.mul_comm 2 t, Int.mul_assoc, Int.mul_comm 2 (2 ^ g2)]
          have t2 : 2 * t ≤ 4096 := by
            have h1 : (2 * t) * 1 ≤ (2 * t) * 2 ^ g2 := Int.mul_le_mul_of_nonneg_left (by have := pow_pos' g2; omega) (by omega)
            omega
          have E2 := Lib.hid e2
          clear e2 HT
          go_wp2
          go_roundg g2
          case measure => omega
          case rel => exact ⟨jj + 1, _, rfl, by omega, by go_num, rfl, by omega, t2, E2⟩

theorem pl_facts : ∀ n, n < 27 → ∀ l, plL[n]? = some l → l.length ≤ 11 ∧ ∀ p ∈ l, 0 ≤ p ∧ p ≤ 12 := by decide

theorem un_facts : ∀ n, n < 27 → ∀ u, unL[n]? = some u → 0 < u ∧ u ≤ 4096 := by decide

theorem ba_facts : ∀ n, n < 27 → ∀ u, baseL[n]? = some u → 0 ≤ u ∧ u ≤ 65536 := by decide

theorem rg_facts (rd rs1 rs2 : Int) (h1 : 0 ≤ rd) (h1' : rd ≤ 31) (h2 : 0 ≤ rs1) (h2' : rs1 ≤ 31) (h3 : 0 ≤ rs2) (h3' : rs2 ≤ 31) (n : Nat) (v : Int) (h : (rgL rd rs1 rs2)[n]? = some v) : -4096 ≤ v ∧ v ≤ 65536 := by
  have hm := List.mem_of_getElem? h
  simp only [rgL, List.mem_cons, List.not_mem_nil, or_false] at hm
  omega

theorem may_regs (op rd rs1 rs2 imm : Int) (h : mayB op rd rs1 rs2 imm = true) : (0 ≤ rd ∧ rd ≤ 31) ∧ (0 ≤ rs1 ∧ rs1 ≤ 31) ∧ (0 ≤ rs2 ∧ rs2 ≤ 31) := by
  have g : ∀ n b, regB n b = true → 0 ≤ n ∧ n ≤ 31 := by
    intro n b hb
    unfold regB at hb
    split at hb
    · simpa using hb
    · have : n = 0 := by simpa using hb
      omega
  unfold mayB at h
  simp only [Bool.and_eq_true] at h
  exact ⟨g _ _ h.2.1, g _ _ h.2.2.1, g _ _ h.2.2.2.1⟩

theorem rPut_any (nm : ByteArray) (op rd rs1 rs2 imm : Int) (w : World) (hv : -2147483648 ≤ imm) (hv' : imm ≤ 2147483647) :
    Calls Try.prog 10 #[.string nm, .agg #[.int .i64 op, .int .i64 rd, .int .i64 rs1, .int .i64 rs2, .int .i32 imm]] w fun e w' => e = .returned (.tuple #[.int .u16 (rPutB nm.toList op rd rs1 rs2 imm), .bool (rFitB nm.toList op rd rs1 rs2 imm)]) ∧ Nx w w' := by
  unfold rPutB
  cases hf : rFitB nm.toList op rd rs1 rs2 imm
  · rw [if_neg (by simp)]
    exact rput_no nm op rd rs1 rs2 imm w hv hv' hf
  · rw [if_pos rfl]
    have hm : mayB op rd rs1 rs2 imm = true := by unfold rFitB at hf; simp only [Bool.and_eq_true] at hf; exact hf.1
    have hrb : refB nm.toList (nmB.getD op.toNat []) rd rs1 rs2 imm = true := by unfold rFitB at hf; simp only [Bool.and_eq_true] at hf; exact hf.2
    have hn : shB.idxOf nm.toList < 27 := by
      rcases Nat.lt_or_ge (shB.idxOf nm.toList) 27 with h | h
      · exact h
      · exfalso
        unfold refB at hrb
        rw [List.getD_eq_getElem?_getD, List.getElem?_eq_none (by show 27 ≤ _; exact h)] at hrb
        cases hrb
    obtain ⟨⟨a1, a2⟩, ⟨a3, a4⟩, a5, a6⟩ := may_regs op rd rs1 rs2 imm hm
    generalize hN : shB.idxOf nm.toList = n at *
    have e1 : shB[n]? = some nm.toList := by
      have h27 : n < shB.length := hn
      rw [List.getElem?_eq_getElem h27]
      congr 1
      subst hN
      exact List.getElem_idxOf h27
    have q1 : plL[n]? = some (plL.getD n []) := by rw [List.getD_eq_getElem?_getD, List.getElem?_eq_getElem (show n < plL.length from hn)]; rfl
    have q2 : unL[n]? = some (unL.getD n 1) := by rw [List.getD_eq_getElem?_getD, List.getElem?_eq_getElem (show n < unL.length from hn)]; rfl
    have q3 : baseL[n]? = some (baseL.getD n 0) := by rw [List.getD_eq_getElem?_getD, List.getElem?_eq_getElem (show n < baseL.length from hn)]; rfl
    have q4 : (rgL rd rs1 rs2)[n]? = some ((rgL rd rs1 rs2).getD n 0) := by rw [List.getD_eq_getElem?_getD, List.getElem?_eq_getElem (show n < (rgL rd rs1 rs2).length from hn)]; rfl
    have hnm : nm = B nm.toList := bytes_eq rfl
    obtain ⟨z1, z2⟩ := pl_facts n hn _ q1
    obtain ⟨z3, z4⟩ := un_facts n hn _ q2
    obtain ⟨z5, z6⟩ := ba_facts n hn _ q3
    obtain ⟨z7, z8⟩ := rg_facts rd rs1 rs2 a1 a2 a3 a4 a5 a6 n _ q4
    have hf2 : rFitB (B nm.toList).toList op rd rs1 rs2 imm = true := by rw [← hnm]; exact hf
    have := rput_yes nm.toList n _ _ _ _ op rd rs1 rs2 imm w hv hv' hf2 a1 a2 a3 a4 a5 a6 e1 q1 q2 q3 q4 z1 z2 z3 z4 z5 z6 z7 z8
    rw [← hnm] at this
    exact this

end Go.Proofs.Ytppnmaklggkogaa

/- Plain: row by row, what is put is what the document puts. -/
namespace Go.Proofs.Ytppnmaklggkogaa
open Go.RowKit
set_option linter.unusedVariables false
set_option linter.unusedSimpArgs false

set_option maxHeartbeats 4000000 in
theorem rp_0 (op rd rs1 rs2 imm : Int) (hf : fitsB (⟨[99, 46, 97, 100, 100, 105, 52, 115, 112, 110], 19, 4, 2, 0, 4, 1020, 4, 0, [48, 48, 48, 102, 101, 106, 105, 104, 103, 99, 100, 68, 68, 68, 48, 48]⟩ : PR) op rd rs1 rs2 imm = true) : layV [6, 5, 11, 12, 7, 8, 9, 10] ((imm + 4294967296) / 4) (0 + ((rd - 8) * 4)) % 65536 = putV (rd % 4294967296) (rs1 % 4294967296) (rs2 % 4294967296) (imm % 4294967296) [48, 48, 48, 102, 101, 106, 105, 104, 103, 99, 100, 68, 68, 68, 48, 48] 0 := by
  simp only [fitsB, Bool.and_eq_true] at hf
  obtain ⟨ho, hm, k1, k2, k3, hz, hl, hu, hs⟩ := hf
  obtain ⟨⟨m1, m2⟩, ⟨m3, m4⟩, m5, m6⟩ := may_regs' op rd rs1 rs2 imm hm
  have ho2 : op = 19 := by simpa using ho
  subst ho2
  try simp [kindB] at k1
  try simp [kindB] at k2
  try simp [kindB] at k3
  try simp at hz
  try simp at hl
  try simp at hu
  try simp at hs
  clear hm ho
  rw [put_0]
  have e : layV [6, 5, 11, 12, 7, 8, 9, 10] ((imm + 4294967296) / 4) (0 + ((rd - 8) * 4)) = 0 + ((rd - 8) * 4) + (imm + 4294967296) / 4 % 2 * 2 ^ (6 : Int).toNat + (imm + 4294967296) / 4 / 2 % 2 * 2 ^ (5 : Int).toNat + (imm + 4294967296) / 4 / 2 / 2 % 2 * 2 ^ (11 : Int).toNat + (imm + 4294967296) / 4 / 2 / 2 / 2 % 2 * 2 ^ (12 : Int).toNat + (imm + 4294967296) / 4 / 2 / 2 / 2 / 2 % 2 * 2 ^ (7 : Int).toNat + (imm + 4294967296) / 4 / 2 / 2 / 2 / 2 / 2 % 2 * 2 ^ (8 : Int).toNat + (imm + 4294967296) / 4 / 2 / 2 / 2 / 2 / 2 / 2 % 2 * 2 ^ (9 : Int).toNat + (imm + 4294967296) / 4 / 2 / 2 / 2 / 2 / 2 / 2 / 2 % 2 * 2 ^ (10 : Int).toNat := rfl
  rw [e]
  clear e
  have f0 : (imm + 4294967296) / 4 % 2 = imm / 4 % 2 := by clear m1 m2 m3 m4 m5 m6 k1 k2 k3 hz; omega
  have f1 : (imm + 4294967296) / 4 / 2 % 2 = imm / 8 % 2 := by clear m1 m2 m3 m4 m5 m6 k1 k2 k3 hz f0; omega
  have f2 : (imm + 4294967296) / 4 / 2 / 2 % 2 = imm / 16 % 2 := by clear m1 m2 m3 m4 m5 m6 k1 k2 k3 hz f0 f1; omega
  have f3 : (imm + 4294967296) / 4 / 2 / 2 / 2 % 2 = imm / 32 % 2 := by clear m1 m2 m3 m4 m5 m6 k1 k2 k3 hz f0 f1 f2; omega
  have f4 : (imm + 4294967296) / 4 / 2 / 2 / 2 / 2 % 2 = imm / 64 % 2 := by clear m1 m2 m3 m4 m5 m6 k1 k2 k3 hz f0 f1 f2 f3; omega
  have f5 : (imm + 4294967296) / 4 / 2 / 2 / 2 / 2 / 2 % 2 = imm / 128 % 2 := by clear m1 m2 m3 m4 m5 m6 k1 k2 k3 hz f0 f1 f2 f3 f4; omega
  have f6 : (imm + 4294967296) / 4 / 2 / 2 / 2 / 2 / 2 / 2 % 2 = imm / 256 % 2 := by clear m1 m2 m3 m4 m5 m6 k1 k2 k3 hz f0 f1 f2 f3 f4 f5; omega
  have f7 : (imm + 4294967296) / 4 / 2 / 2 / 2 / 2 / 2 / 2 / 2 % 2 = imm / 512 % 2 := by clear m1 m2 m3 m4 m5 m6 k1 k2 k3 hz f0 f1 f2 f3 f4 f5 f6; omega
  rw [f7, f6, f5, f4, f3, f2, f1, f0]
  clear f0 f1 f2 f3 f4 f5 f6 f7
  have d0 := bit2 imm 4
  have d1 := bit2 imm 8
  have d2 := bit2 imm 16
  have d3 := bit2 imm 32
  have d4 := bit2 imm 64
  have d5 := bit2 imm 128
  have d6 := bit2 imm 256
  have d7 := bit2 imm 512
  generalize imm / 4 % 2 = i0 at *
  generalize imm / 8 % 2 = i1 at *
  generalize imm / 16 % 2 = i2 at *
  generalize imm / 32 % 2 = i3 at *
  generalize imm / 64 % 2 = i4 at *
  generalize imm / 128 % 2 = i5 at *
  generalize imm / 256 % 2 = i6 at *
  generalize imm / 512 % 2 = i7 at *
  clear hl hu hs hz
  try simp only [Int.reduceToNat, Int.reducePow]
  omega

set_option maxHeartbeats 4000000 in
theorem rp_1 (op rd rs1 rs2 imm : Int) (hf : fitsB (⟨[99, 46, 108, 119], 13, 4, 4, 0, 0, 124, 4, 0, [48, 49, 48, 102, 101, 100, 83, 83, 83, 99, 103, 68, 68, 68, 48, 48]⟩ : PR) op rd rs1 rs2 imm = true) : layV [6, 10, 11, 12, 5] ((imm + 4294967296) / 4) (16384 + ((rd - 8) * 4 + (rs1 - 8) * 128)) % 65536 = putV (rd % 4294967296) (rs1 % 4294967296) (rs2 % 4294967296) (imm % 4294967296) [48, 49, 48, 102, 101, 100, 83, 83, 83, 99, 103, 68, 68, 68, 48, 48] 0 := by
  simp only [fitsB, Bool.and_eq_true] at hf
  obtain ⟨ho, hm, k1, k2, k3, hz, hl, hu, hs⟩ := hf
  obtain ⟨⟨m1, m2⟩, ⟨m3, m4⟩, m5, m6⟩ := may_regs' op rd rs1 rs2 imm hm
  have ho2 : op = 13 := by simpa using ho
  subst ho2
  try simp [kindB] at k1
  try simp [kindB] at k2
  try simp [kindB] at k3
  try simp at hz
  try simp at hl
  try simp at hu
  try simp at hs
  clear hm ho
  rw [put_1]
  have e : layV [6, 10, 11, 12, 5] ((imm + 4294967296) / 4) (16384 + ((rd - 8) * 4 + (rs1 - 8) * 128)) = 16384 + ((rd - 8) * 4 + (rs1 - 8) * 128) + (imm + 4294967296) / 4 % 2 * 2 ^ (6 : Int).toNat + (imm + 4294967296) / 4 / 2 % 2 * 2 ^ (10 : Int).toNat + (imm + 4294967296) / 4 / 2 / 2 % 2 * 2 ^ (11 : Int).toNat + (imm + 4294967296) / 4 / 2 / 2 / 2 % 2 * 2 ^ (12 : Int).toNat + (imm + 4294967296) / 4 / 2 / 2 / 2 / 2 % 2 * 2 ^ (5 : Int).toNat := rfl
  rw [e]
  clear e
  have f0 : (imm + 4294967296) / 4 % 2 = imm / 4 % 2 := by clear m1 m2 m3 m4 m5 m6 k1 k2 k3 hz; omega
  have f1 : (imm + 4294967296) / 4 / 2 % 2 = imm / 8 % 2 := by clear m1 m2 m3 m4 m5 m6 k1 k2 k3 hz f0; omega
  have f2 : (imm + 4294967296) / 4 / 2 / 2 % 2 = imm / 16 % 2 := by clear m1 m2 m3 m4 m5 m6 k1 k2 k3 hz f0 f1; omega
  have f3 : (imm + 4294967296) / 4 / 2 / 2 / 2 % 2 = imm / 32 % 2 := by clear m1 m2 m3 m4 m5 m6 k1 k2 k3 hz f0 f1 f2; omega
  have f4 : (imm + 4294967296) / 4 / 2 / 2 / 2 / 2 % 2 = imm / 64 % 2 := by clear m1 m2 m3 m4 m5 m6 k1 k2 k3 hz f0 f1 f2 f3; omega
  rw [f4, f3, f2, f1, f0]
  clear f0 f1 f2 f3 f4
  have d0 := bit2 imm 4
  have d1 := bit2 imm 8
  have d2 := bit2 imm 16
  have d3 := bit2 imm 32
  have d4 := bit2 imm 64
  generalize imm / 4 % 2 = i0 at *
  generalize imm / 8 % 2 = i1 at *
  generalize imm / 16 % 2 = i2 at *
  generalize imm / 32 % 2 = i3 at *
  generalize imm / 64 % 2 = i4 at *
  clear hl hu hs hz
  try simp only [Int.reduceToNat, Int.reducePow]
  omega

set_option maxHeartbeats 4000000 in
theorem rp_2 (op rd rs1 rs2 imm : Int) (hf : fitsB (⟨[99, 46, 115, 119], 18, 0, 4, 4, 0, 124, 4, 0, [49, 49, 48, 102, 101, 100, 83, 83, 83, 99, 103, 84, 84, 84, 48, 48]⟩ : PR) op rd rs1 rs2 imm = true) : layV [6, 10, 11, 12, 5] ((imm + 4294967296) / 4) (49152 + ((rs2 - 8) * 4 + (rs1 - 8) * 128)) % 65536 = putV (rd % 4294967296) (rs1 % 4294967296) (rs2 % 4294967296) (imm % 4294967296) [49, 49, 48, 102, 101, 100, 83, 83, 83, 99, 103, 84, 84, 84, 48, 48] 0 := by
  simp only [fitsB, Bool.and_eq_true] at hf
  obtain ⟨ho, hm, k1, k2, k3, hz, hl, hu, hs⟩ := hf
  obtain ⟨⟨m1, m2⟩, ⟨m3, m4⟩, m5, m6⟩ := may_regs' op rd rs1 rs2 imm hm
  have ho2 : op = 18 := by simpa using ho
  subst ho2
  try simp [kindB] at k1
  try simp [kindB] at k2
  try simp [kindB] at k3
  try simp at hz
  try simp at hl
  try simp at hu
  try simp at hs
  clear hm ho
  rw [put_2]
  have e : layV [6, 10, 11, 12, 5] ((imm + 4294967296) / 4) (49152 + ((rs2 - 8) * 4 + (rs1 - 8) * 128)) = 49152 + ((rs2 - 8) * 4 + (rs1 - 8) * 128) + (imm + 4294967296) / 4 % 2 * 2 ^ (6 : Int).toNat + (imm + 4294967296) / 4 / 2 % 2 * 2 ^ (10 : Int).toNat + (imm + 4294967296) / 4 / 2 / 2 % 2 * 2 ^ (11 : Int).toNat + (imm + 4294967296) / 4 / 2 / 2 / 2 % 2 * 2 ^ (12 : Int).toNat + (imm + 4294967296) / 4 / 2 / 2 / 2 / 2 % 2 * 2 ^ (5 : Int).toNat := rfl
  rw [e]
  clear e
  have f0 : (imm + 4294967296) / 4 % 2 = imm / 4 % 2 := by clear m1 m2 m3 m4 m5 m6 k1 k2 k3 hz; omega
  have f1 : (imm + 4294967296) / 4 / 2 % 2 = imm / 8 % 2 := by clear m1 m2 m3 m4 m5 m6 k1 k2 k3 hz f0; omega
  have f2 : (imm + 4294967296) / 4 / 2 / 2 % 2 = imm / 16 % 2 := by clear m1 m2 m3 m4 m5 m6 k1 k2 k3 hz f0 f1; omega
  have f3 : (imm + 4294967296) / 4 / 2 / 2 / 2 % 2 = imm / 32 % 2 := by clear m1 m2 m3 m4 m5 m6 k1 k2 k3 hz f0 f1 f2; omega
  have f4 : (imm + 4294967296) / 4 / 2 / 2 / 2 / 2 % 2 = imm / 64 % 2 := by clear m1 m2 m3 m4 m5 m6 k1 k2 k3 hz f0 f1 f2 f3; omega
  rw [f4, f3, f2, f1, f0]
  clear f0 f1 f2 f3 f4
  have d0 := bit2 imm 4
  have d1 := bit2 imm 8
  have d2 := bit2 imm 16
  have d3 := bit2 imm 32
  have d4 := bit2 imm 64
  generalize imm / 4 % 2 = i0 at *
  generalize imm / 8 % 2 = i1 at *
  generalize imm / 16 % 2 = i2 at *
  generalize imm / 32 % 2 = i3 at *
  generalize imm / 64 % 2 = i4 at *
  clear hl hu hs hz
  try simp only [Int.reduceToNat, Int.reducePow]
  omega

set_option maxHeartbeats 4000000 in
theorem rp_3 (op rd rs1 rs2 imm : Int) (hf : fitsB (⟨[99, 46, 110, 111, 112], 19, 0, 0, 0, 0, 0, 1, 0, [48, 48, 48, 48, 48, 48, 48, 48, 48, 48, 48, 48, 48, 48, 48, 49]⟩ : PR) op rd rs1 rs2 imm = true) : layV [] ((imm + 4294967296) / 1) (1 + (0)) % 65536 = putV (rd % 4294967296) (rs1 % 4294967296) (rs2 % 4294967296) (imm % 4294967296) [48, 48, 48, 48, 48, 48, 48, 48, 48, 48, 48, 48, 48, 48, 48, 49] 0 := by
  simp only [fitsB, Bool.and_eq_true] at hf
  obtain ⟨ho, hm, k1, k2, k3, hz, hl, hu, hs⟩ := hf
  obtain ⟨⟨m1, m2⟩, ⟨m3, m4⟩, m5, m6⟩ := may_regs' op rd rs1 rs2 imm hm
  have ho2 : op = 19 := by simpa using ho
  subst ho2
  try simp [kindB] at k1
  try simp [kindB] at k2
  try simp [kindB] at k3
  try simp at hz
  try simp at hl
  try simp at hu
  try simp at hs
  clear hm ho
  rw [put_3]
  have e : layV [] ((imm + 4294967296) / 1) (1 + (0)) = 1 + (0) := rfl
  rw [e]
  clear e
  clear hl hu hs hz
  try simp only [Int.reduceToNat, Int.reducePow]
  omega

set_option maxHeartbeats 4000000 in
theorem rp_4 (op rd rs1 rs2 imm : Int) (hf : fitsB (⟨[99, 46, 97, 100, 100, 105], 19, 5, 7, 0, (-32), 31, 1, 1, [48, 48, 48, 102, 68, 68, 68, 68, 68, 101, 100, 99, 98, 97, 48, 49]⟩ : PR) op rd rs1 rs2 imm = true) : layV [2, 3, 4, 5, 6, 12] ((imm + 4294967296) / 1) (1 + (rd * 128)) % 65536 = putV (rd % 4294967296) (rs1 % 4294967296) (rs2 % 4294967296) (imm % 4294967296) [48, 48, 48, 102, 68, 68, 68, 68, 68, 101, 100, 99, 98, 97, 48, 49] 0 := by
  simp only [fitsB, Bool.and_eq_true] at hf
  obtain ⟨ho, hm, k1, k2, k3, hz, hl, hu, hs⟩ := hf
  obtain ⟨⟨m1, m2⟩, ⟨m3, m4⟩, m5, m6⟩ := may_regs' op rd rs1 rs2 imm hm
  have ho2 : op = 19 := by simpa using ho
  subst ho2
  try simp [kindB] at k1
  try simp [kindB] at k2
  try simp [kindB] at k3
  try simp at hz
  try simp at hl
  try simp at hu
  try simp at hs
  clear hm ho
  rw [put_4]
  have e : layV [2, 3, 4, 5, 6, 12] ((imm + 4294967296) / 1) (1 + (rd * 128)) = 1 + (rd * 128) + (imm + 4294967296) / 1 % 2 * 2 ^ (2 : Int).toNat + (imm + 4294967296) / 1 / 2 % 2 * 2 ^ (3 : Int).toNat + (imm + 4294967296) / 1 / 2 / 2 % 2 * 2 ^ (4 : Int).toNat + (imm + 4294967296) / 1 / 2 / 2 / 2 % 2 * 2 ^ (5 : Int).toNat + (imm + 4294967296) / 1 / 2 / 2 / 2 / 2 % 2 * 2 ^ (6 : Int).toNat + (imm + 4294967296) / 1 / 2 / 2 / 2 / 2 / 2 % 2 * 2 ^ (12 : Int).toNat := rfl
  rw [e]
  clear e
  have f0 : (imm + 4294967296) / 1 % 2 = imm / 1 % 2 := by clear m1 m2 m3 m4 m5 m6 k1 k2 k3 hz; omega
  have f1 : (imm + 4294967296) / 1 / 2 % 2 = imm / 2 % 2 := by clear m1 m2 m3 m4 m5 m6 k1 k2 k3 hz f0; omega
  have f2 : (imm + 4294967296) / 1 / 2 / 2 % 2 = imm / 4 % 2 := by clear m1 m2 m3 m4 m5 m6 k1 k2 k3 hz f0 f1; omega
  have f3 : (imm + 4294967296) / 1 / 2 / 2 / 2 % 2 = imm / 8 % 2 := by clear m1 m2 m3 m4 m5 m6 k1 k2 k3 hz f0 f1 f2; omega
  have f4 : (imm + 4294967296) / 1 / 2 / 2 / 2 / 2 % 2 = imm / 16 % 2 := by clear m1 m2 m3 m4 m5 m6 k1 k2 k3 hz f0 f1 f2 f3; omega
  have f5 : (imm + 4294967296) / 1 / 2 / 2 / 2 / 2 / 2 % 2 = imm / 32 % 2 := by clear m1 m2 m3 m4 m5 m6 k1 k2 k3 hz f0 f1 f2 f3 f4; omega
  rw [f5, f4, f3, f2, f1, f0]
  clear f0 f1 f2 f3 f4 f5
  have d0 := bit2 imm 1
  have d1 := bit2 imm 2
  have d2 := bit2 imm 4
  have d3 := bit2 imm 8
  have d4 := bit2 imm 16
  have d5 := bit2 imm 32
  generalize imm / 1 % 2 = i0 at *
  generalize imm / 2 % 2 = i1 at *
  generalize imm / 4 % 2 = i2 at *
  generalize imm / 8 % 2 = i3 at *
  generalize imm / 16 % 2 = i4 at *
  generalize imm / 32 % 2 = i5 at *
  clear hl hu hs hz
  try simp only [Int.reduceToNat, Int.reducePow]
  omega

set_option maxHeartbeats 4000000 in
theorem rp_5 (op rd rs1 rs2 imm : Int) (hf : fitsB (⟨[99, 46, 106, 97, 108], 3, 1, 0, 0, (-2048), 2046, 2, 0, [48, 48, 49, 108, 101, 106, 105, 107, 103, 104, 100, 99, 98, 102, 48, 49]⟩ : PR) op rd rs1 rs2 imm = true) : layV [3, 4, 5, 11, 2, 7, 6, 9, 10, 8, 12] ((imm + 4294967296) / 2) (8193 + (0)) % 65536 = putV (rd % 4294967296) (rs1 % 4294967296) (rs2 % 4294967296) (imm % 4294967296) [48, 48, 49, 108, 101, 106, 105, 107, 103, 104, 100, 99, 98, 102, 48, 49] 0 := by
  simp only [fitsB, Bool.and_eq_true] at hf
  obtain ⟨ho, hm, k1, k2, k3, hz, hl, hu, hs⟩ := hf
  obtain ⟨⟨m1, m2⟩, ⟨m3, m4⟩, m5, m6⟩ := may_regs' op rd rs1 rs2 imm hm
  have ho2 : op = 3 := by simpa using ho
  subst ho2
  try simp [kindB] at k1
  try simp [kindB] at k2
  try simp [kindB] at k3
  try simp at hz
  try simp at hl
  try simp at hu
  try simp at hs
  clear hm ho
  rw [put_5]
  have e : layV [3, 4, 5, 11, 2, 7, 6, 9, 10, 8, 12] ((imm + 4294967296) / 2) (8193 + (0)) = 8193 + (0) + (imm + 4294967296) / 2 % 2 * 2 ^ (3 : Int).toNat + (imm + 4294967296) / 2 / 2 % 2 * 2 ^ (4 : Int).toNat + (imm + 4294967296) / 2 / 2 / 2 % 2 * 2 ^ (5 : Int).toNat + (imm + 4294967296) / 2 / 2 / 2 / 2 % 2 * 2 ^ (11 : Int).toNat + (imm + 4294967296) / 2 / 2 / 2 / 2 / 2 % 2 * 2 ^ (2 : Int).toNat + (imm + 4294967296) / 2 / 2 / 2 / 2 / 2 / 2 % 2 * 2 ^ (7 : Int).toNat + (imm + 4294967296) / 2 / 2 / 2 / 2 / 2 / 2 / 2 % 2 * 2 ^ (6 : Int).toNat + (imm + 4294967296) / 2 / 2 / 2 / 2 / 2 / 2 / 2 / 2 % 2 * 2 ^ (9 : Int).toNat + (imm + 4294967296) / 2 / 2 / 2 / 2 / 2 / 2 / 2 / 2 / 2 % 2 * 2 ^ (10 : Int).toNat + (imm + 4294967296) / 2 / 2 / 2 / 2 / 2 / 2 / 2 / 2 / 2 / 2 % 2 * 2 ^ (8 : Int).toNat + (imm + 4294967296) / 2 / 2 / 2 / 2 / 2 / 2 / 2 / 2 / 2 / 2 / 2 % 2 * 2 ^ (12 : Int).toNat := rfl
  rw [e]
  clear e
  have f0 : (imm + 4294967296) / 2 % 2 = imm / 2 % 2 := by clear m1 m2 m3 m4 m5 m6 k1 k2 k3 hz; omega
  have f1 : (imm + 4294967296) / 2 / 2 % 2 = imm / 4 % 2 := by clear m1 m2 m3 m4 m5 m6 k1 k2 k3 hz f0; omega
  have f2 : (imm + 4294967296) / 2 / 2 / 2 % 2 = imm / 8 % 2 := by clear m1 m2 m3 m4 m5 m6 k1 k2 k3 hz f0 f1; omega
  have f3 : (imm + 4294967296) / 2 / 2 / 2 / 2 % 2 = imm / 16 % 2 := by clear m1 m2 m3 m4 m5 m6 k1 k2 k3 hz f0 f1 f2; omega
  have f4 : (imm + 4294967296) / 2 / 2 / 2 / 2 / 2 % 2 = imm / 32 % 2 := by clear m1 m2 m3 m4 m5 m6 k1 k2 k3 hz f0 f1 f2 f3; omega
  have f5 : (imm + 4294967296) / 2 / 2 / 2 / 2 / 2 / 2 % 2 = imm / 64 % 2 := by clear m1 m2 m3 m4 m5 m6 k1 k2 k3 hz f0 f1 f2 f3 f4; omega
  have f6 : (imm + 4294967296) / 2 / 2 / 2 / 2 / 2 / 2 / 2 % 2 = imm / 128 % 2 := by clear m1 m2 m3 m4 m5 m6 k1 k2 k3 hz f0 f1 f2 f3 f4 f5; omega
  have f7 : (imm + 4294967296) / 2 / 2 / 2 / 2 / 2 / 2 / 2 / 2 % 2 = imm / 256 % 2 := by clear m1 m2 m3 m4 m5 m6 k1 k2 k3 hz f0 f1 f2 f3 f4 f5 f6; omega
  have f8 : (imm + 4294967296) / 2 / 2 / 2 / 2 / 2 / 2 / 2 / 2 / 2 % 2 = imm / 512 % 2 := by clear m1 m2 m3 m4 m5 m6 k1 k2 k3 hz f0 f1 f2 f3 f4 f5 f6 f7; omega
  have f9 : (imm + 4294967296) / 2 / 2 / 2 / 2 / 2 / 2 / 2 / 2 / 2 / 2 % 2 = imm / 1024 % 2 := by clear m1 m2 m3 m4 m5 m6 k1 k2 k3 hz f0 f1 f2 f3 f4 f5 f6 f7 f8; omega
  have f10 : (imm + 4294967296) / 2 / 2 / 2 / 2 / 2 / 2 / 2 / 2 / 2 / 2 / 2 % 2 = imm / 2048 % 2 := by clear m1 m2 m3 m4 m5 m6 k1 k2 k3 hz f0 f1 f2 f3 f4 f5 f6 f7 f8 f9; omega
  rw [f10, f9, f8, f7, f6, f5, f4, f3, f2, f1, f0]
  clear f0 f1 f2 f3 f4 f5 f6 f7 f8 f9 f10
  have d0 := bit2 imm 2
  have d1 := bit2 imm 4
  have d2 := bit2 imm 8
  have d3 := bit2 imm 16
  have d4 := bit2 imm 32
  have d5 := bit2 imm 64
  have d6 := bit2 imm 128
  have d7 := bit2 imm 256
  have d8 := bit2 imm 512
  have d9 := bit2 imm 1024
  have d10 := bit2 imm 2048
  generalize imm / 2 % 2 = i0 at *
  generalize imm / 4 % 2 = i1 at *
  generalize imm / 8 % 2 = i2 at *
  generalize imm / 16 % 2 = i3 at *
  generalize imm / 32 % 2 = i4 at *
  generalize imm / 64 % 2 = i5 at *
  generalize imm / 128 % 2 = i6 at *
  generalize imm / 256 % 2 = i7 at *
  generalize imm / 512 % 2 = i8 at *
  generalize imm / 1024 % 2 = i9 at *
  generalize imm / 2048 % 2 = i10 at *
  clear hl hu hs hz
  try simp only [Int.reduceToNat, Int.reducePow]
  omega

set_option maxHeartbeats 4000000 in
theorem rp_6 (op rd rs1 rs2 imm : Int) (hf : fitsB (⟨[99, 46, 108, 105], 19, 5, 0, 0, (-32), 31, 1, 0, [48, 49, 48, 102, 68, 68, 68, 68, 68, 101, 100, 99, 98, 97, 48, 49]⟩ : PR) op rd rs1 rs2 imm = true) : layV [2, 3, 4, 5, 6, 12] ((imm + 4294967296) / 1) (16385 + (rd * 128)) % 65536 = putV (rd % 4294967296) (rs1 % 4294967296) (rs2 % 4294967296) (imm % 4294967296) [48, 49, 48, 102, 68, 68, 68, 68, 68, 101, 100, 99, 98, 97, 48, 49] 0 := by
  simp only [fitsB, Bool.and_eq_true] at hf
  obtain ⟨ho, hm, k1, k2, k3, hz, hl, hu, hs⟩ := hf
  obtain ⟨⟨m1, m2⟩, ⟨m3, m4⟩, m5, m6⟩ := may_regs' op rd rs1 rs2 imm hm
  have ho2 : op = 19 := by simpa using ho
  subst ho2
  try simp [kindB] at k1
  try simp [kindB] at k2
  try simp [kindB] at k3
  try simp at hz
  try simp at hl
  try simp at hu
  try simp at hs
  clear hm ho
  rw [put_6]
  have e : layV [2, 3, 4, 5, 6, 12] ((imm + 4294967296) / 1) (16385 + (rd * 128)) = 16385 + (rd * 128) + (imm + 4294967296) / 1 % 2 * 2 ^ (2 : Int).toNat + (imm + 4294967296) / 1 / 2 % 2 * 2 ^ (3 : Int).toNat + (imm + 4294967296) / 1 / 2 / 2 % 2 * 2 ^ (4 : Int).toNat + (imm + 4294967296) / 1 / 2 / 2 / 2 % 2 * 2 ^ (5 : Int).toNat + (imm + 4294967296) / 1 / 2 / 2 / 2 / 2 % 2 * 2 ^ (6 : Int).toNat + (imm + 4294967296) / 1 / 2 / 2 / 2 / 2 / 2 % 2 * 2 ^ (12 : Int).toNat := rfl
  rw [e]
  clear e
  have f0 : (imm + 4294967296) / 1 % 2 = imm / 1 % 2 := by clear m1 m2 m3 m4 m5 m6 k1 k2 k3 hz; omega
  have f1 : (imm + 4294967296) / 1 / 2 % 2 = imm / 2 % 2 := by clear m1 m2 m3 m4 m5 m6 k1 k2 k3 hz f0; omega
  have f2 : (imm + 4294967296) / 1 / 2 / 2 % 2 = imm / 4 % 2 := by clear m1 m2 m3 m4 m5 m6 k1 k2 k3 hz f0 f1; omega
  have f3 : (imm + 4294967296) / 1 / 2 / 2 / 2 % 2 = imm / 8 % 2 := by clear m1 m2 m3 m4 m5 m6 k1 k2 k3 hz f0 f1 f2; omega
  have f4 : (imm + 4294967296) / 1 / 2 / 2 / 2 / 2 % 2 = imm / 16 % 2 := by clear m1 m2 m3 m4 m5 m6 k1 k2 k3 hz f0 f1 f2 f3; omega
  have f5 : (imm + 4294967296) / 1 / 2 / 2 / 2 / 2 / 2 % 2 = imm / 32 % 2 := by clear m1 m2 m3 m4 m5 m6 k1 k2 k3 hz f0 f1 f2 f3 f4; omega
  rw [f5, f4, f3, f2, f1, f0]
  clear f0 f1 f2 f3 f4 f5
  have d0 := bit2 imm 1
  have d1 := bit2 imm 2
  have d2 := bit2 imm 4
  have d3 := bit2 imm 8
  have d4 := bit2 imm 16
  have d5 := bit2 imm 32
  generalize imm / 1 % 2 = i0 at *
  generalize imm / 2 % 2 = i1 at *
  generalize imm / 4 % 2 = i2 at *
  generalize imm / 8 % 2 = i3 at *
  generalize imm / 16 % 2 = i4 at *
  generalize imm / 32 % 2 = i5 at *
  clear hl hu hs hz
  try simp only [Int.reduceToNat, Int.reducePow]
  omega

set_option maxHeartbeats 4000000 in
theorem rp_7 (op rd rs1 rs2 imm : Int) (hf : fitsB (⟨[99, 46, 97, 100, 100, 105, 49, 54, 115, 112], 19, 2, 7, 0, (-512), 496, 16, 1, [48, 49, 49, 106, 48, 48, 48, 49, 48, 101, 103, 105, 104, 102, 48, 49]⟩ : PR) op rd rs1 rs2 imm = true) : layV [6, 2, 5, 3, 4, 12] ((imm + 4294967296) / 16) (24833 + (0)) % 65536 = putV (rd % 4294967296) (rs1 % 4294967296) (rs2 % 4294967296) (imm % 4294967296) [48, 49, 49, 106, 48, 48, 48, 49, 48, 101, 103, 105, 104, 102, 48, 49] 0 := by
  simp only [fitsB, Bool.and_eq_true] at hf
  obtain ⟨ho, hm, k1, k2, k3, hz, hl, hu, hs⟩ := hf
  obtain ⟨⟨m1, m2⟩, ⟨m3, m4⟩, m5, m6⟩ := may_regs' op rd rs1 rs2 imm hm
  have ho2 : op = 19 := by simpa using ho
  subst ho2
  try simp [kindB] at k1
  try simp [kindB] at k2
  try simp [kindB] at k3
  try simp at hz
  try simp at hl
  try simp at hu
  try simp at hs
  clear hm ho
  rw [put_7]
  have e : layV [6, 2, 5, 3, 4, 12] ((imm + 4294967296) / 16) (24833 + (0)) = 24833 + (0) + (imm + 4294967296) / 16 % 2 * 2 ^ (6 : Int).toNat + (imm + 4294967296) / 16 / 2 % 2 * 2 ^ (2 : Int).toNat + (imm + 4294967296) / 16 / 2 / 2 % 2 * 2 ^ (5 : Int).toNat + (imm + 4294967296) / 16 / 2 / 2 / 2 % 2 * 2 ^ (3 : Int).toNat + (imm + 4294967296) / 16 / 2 / 2 / 2 / 2 % 2 * 2 ^ (4 : Int).toNat + (imm + 4294967296) / 16 / 2 / 2 / 2 / 2 / 2 % 2 * 2 ^ (12 : Int).toNat := rfl
  rw [e]
  clear e
  have f0 : (imm + 4294967296) / 16 % 2 = imm / 16 % 2 := by clear m1 m2 m3 m4 m5 m6 k1 k2 k3 hz; omega
  have f1 : (imm + 4294967296) / 16 / 2 % 2 = imm / 32 % 2 := by clear m1 m2 m3 m4 m5 m6 k1 k2 k3 hz f0; omega
  have f2 : (imm + 4294967296) / 16 / 2 / 2 % 2 = imm / 64 % 2 := by clear m1 m2 m3 m4 m5 m6 k1 k2 k3 hz f0 f1; omega
  have f3 : (imm + 4294967296) / 16 / 2 / 2 / 2 % 2 = imm / 128 % 2 := by clear m1 m2 m3 m4 m5 m6 k1 k2 k3 hz f0 f1 f2; omega
  have f4 : (imm + 4294967296) / 16 / 2 / 2 / 2 / 2 % 2 = imm / 256 % 2 := by clear m1 m2 m3 m4 m5 m6 k1 k2 k3 hz f0 f1 f2 f3; omega
  have f5 : (imm + 4294967296) / 16 / 2 / 2 / 2 / 2 / 2 % 2 = imm / 512 % 2 := by clear m1 m2 m3 m4 m5 m6 k1 k2 k3 hz f0 f1 f2 f3 f4; omega
  rw [f5, f4, f3, f2, f1, f0]
  clear f0 f1 f2 f3 f4 f5
  have d0 := bit2 imm 16
  have d1 := bit2 imm 32
  have d2 := bit2 imm 64
  have d3 := bit2 imm 128
  have d4 := bit2 imm 256
  have d5 := bit2 imm 512
  generalize imm / 16 % 2 = i0 at *
  generalize imm / 32 % 2 = i1 at *
  generalize imm / 64 % 2 = i2 at *
  generalize imm / 128 % 2 = i3 at *
  generalize imm / 256 % 2 = i4 at *
  generalize imm / 512 % 2 = i5 at *
  clear hl hu hs hz
  try simp only [Int.reduceToNat, Int.reducePow]
  omega

set_option maxHeartbeats 4000000 in
theorem rp_8 (op rd rs1 rs2 imm : Int) (hf : fitsB (⟨[99, 46, 108, 117, 105], 1, 6, 0, 0, (-131072), 126976, 4096, 1, [48, 49, 49, 114, 68, 68, 68, 68, 68, 113, 112, 111, 110, 109, 48, 49]⟩ : PR) op rd rs1 rs2 imm = true) : layV [2, 3, 4, 5, 6, 12] ((imm + 4294967296) / 4096) (24577 + (rd * 128)) % 65536 = putV (rd % 4294967296) (rs1 % 4294967296) (rs2 % 4294967296) (imm % 4294967296) [48, 49, 49, 114, 68, 68, 68, 68, 68, 113, 112, 111, 110, 109, 48, 49] 0 := by
  simp only [fitsB, Bool.and_eq_true] at hf
  obtain ⟨ho, hm, k1, k2, k3, hz, hl, hu, hs⟩ := hf
  obtain ⟨⟨m1, m2⟩, ⟨m3, m4⟩, m5, m6⟩ := may_regs' op rd rs1 rs2 imm hm
  have ho2 : op = 1 := by simpa using ho
  subst ho2
  try simp [kindB] at k1
  try simp [kindB] at k2
  try simp [kindB] at k3
  try simp at hz
  try simp at hl
  try simp at hu
  try simp at hs
  clear hm ho
  rw [put_8]
  have e : layV [2, 3, 4, 5, 6, 12] ((imm + 4294967296) / 4096) (24577 + (rd * 128)) = 24577 + (rd * 128) + (imm + 4294967296) / 4096 % 2 * 2 ^ (2 : Int).toNat + (imm + 4294967296) / 4096 / 2 % 2 * 2 ^ (3 : Int).toNat + (imm + 4294967296) / 4096 / 2 / 2 % 2 * 2 ^ (4 : Int).toNat + (imm + 4294967296) / 4096 / 2 / 2 / 2 % 2 * 2 ^ (5 : Int).toNat + (imm + 4294967296) / 4096 / 2 / 2 / 2 / 2 % 2 * 2 ^ (6 : Int).toNat + (imm + 4294967296) / 4096 / 2 / 2 / 2 / 2 / 2 % 2 * 2 ^ (12 : Int).toNat := rfl
  rw [e]
  clear e
  have f0 : (imm + 4294967296) / 4096 % 2 = imm / 4096 % 2 := by clear m1 m2 m3 m4 m5 m6 k1 k2 k3 hz; omega
  have f1 : (imm + 4294967296) / 4096 / 2 % 2 = imm / 8192 % 2 := by clear m1 m2 m3 m4 m5 m6 k1 k2 k3 hz f0; omega
  have f2 : (imm + 4294967296) / 4096 / 2 / 2 % 2 = imm / 16384 % 2 := by clear m1 m2 m3 m4 m5 m6 k1 k2 k3 hz f0 f1; omega
  have f3 : (imm + 4294967296) / 4096 / 2 / 2 / 2 % 2 = imm / 32768 % 2 := by clear m1 m2 m3 m4 m5 m6 k1 k2 k3 hz f0 f1 f2; omega
  have f4 : (imm + 4294967296) / 4096 / 2 / 2 / 2 / 2 % 2 = imm / 65536 % 2 := by clear m1 m2 m3 m4 m5 m6 k1 k2 k3 hz f0 f1 f2 f3; omega
  have f5 : (imm + 4294967296) / 4096 / 2 / 2 / 2 / 2 / 2 % 2 = imm / 131072 % 2 := by clear m1 m2 m3 m4 m5 m6 k1 k2 k3 hz f0 f1 f2 f3 f4; omega
  rw [f5, f4, f3, f2, f1, f0]
  clear f0 f1 f2 f3 f4 f5
  have d0 := bit2 imm 4096
  have d1 := bit2 imm 8192
  have d2 := bit2 imm 16384
  have d3 := bit2 imm 32768
  have d4 := bit2 imm 65536
  have d5 := bit2 imm 131072
  generalize imm / 4096 % 2 = i0 at *
  generalize imm / 8192 % 2 = i1 at *
  generalize imm / 16384 % 2 = i2 at *
  generalize imm / 32768 % 2 = i3 at *
  generalize imm / 65536 % 2 = i4 at *
  generalize imm / 131072 % 2 = i5 at *
  clear hl hu hs hz
  try simp only [Int.reduceToNat, Int.reducePow]
  omega

set_option maxHeartbeats 4000000 in
theorem rp_9 (op rd rs1 rs2 imm : Int) (hf : fitsB (⟨[99, 46, 115, 114, 108, 105], 26, 4, 7, 0, 1, 31, 1, 0, [49, 48, 48, 48, 48, 48, 68, 68, 68, 101, 100, 99, 98, 97, 48, 49]⟩ : PR) op rd rs1 rs2 imm = true) : layV [2, 3, 4, 5, 6] ((imm + 4294967296) / 1) (32769 + ((rd - 8) * 128)) % 65536 = putV (rd % 4294967296) (rs1 % 4294967296) (rs2 % 4294967296) (imm % 4294967296) [49, 48, 48, 48, 48, 48, 68, 68, 68, 101, 100, 99, 98, 97, 48, 49] 0 := by
  simp only [fitsB, Bool.and_eq_true] at hf
  obtain ⟨ho, hm, k1, k2, k3, hz, hl, hu, hs⟩ := hf
  obtain ⟨⟨m1, m2⟩, ⟨m3, m4⟩, m5, m6⟩ := may_regs' op rd rs1 rs2 imm hm
  have ho2 : op = 26 := by simpa using ho
  subst ho2
  try simp [kindB] at k1
  try simp [kindB] at k2
  try simp [kindB] at k3
  try simp at hz
  try simp at hl
  try simp at hu
  try simp at hs
  clear hm ho
  rw [put_9]
  have e : layV [2, 3, 4, 5, 6] ((imm + 4294967296) / 1) (32769 + ((rd - 8) * 128)) = 32769 + ((rd - 8) * 128) + (imm + 4294967296) / 1 % 2 * 2 ^ (2 : Int).toNat + (imm + 4294967296) / 1 / 2 % 2 * 2 ^ (3 : Int).toNat + (imm + 4294967296) / 1 / 2 / 2 % 2 * 2 ^ (4 : Int).toNat + (imm + 4294967296) / 1 / 2 / 2 / 2 % 2 * 2 ^ (5 : Int).toNat + (imm + 4294967296) / 1 / 2 / 2 / 2 / 2 % 2 * 2 ^ (6 : Int).toNat := rfl
  rw [e]
  clear e
  have f0 : (imm + 4294967296) / 1 % 2 = imm / 1 % 2 := by clear m1 m2 m3 m4 m5 m6 k1 k2 k3 hz; omega
  have f1 : (imm + 4294967296) / 1 / 2 % 2 = imm / 2 % 2 := by clear m1 m2 m3 m4 m5 m6 k1 k2 k3 hz f0; omega
  have f2 : (imm + 4294967296) / 1 / 2 / 2 % 2 = imm / 4 % 2 := by clear m1 m2 m3 m4 m5 m6 k1 k2 k3 hz f0 f1; omega
  have f3 : (imm + 4294967296) / 1 / 2 / 2 / 2 % 2 = imm / 8 % 2 := by clear m1 m2 m3 m4 m5 m6 k1 k2 k3 hz f0 f1 f2; omega
  have f4 : (imm + 4294967296) / 1 / 2 / 2 / 2 / 2 % 2 = imm / 16 % 2 := by clear m1 m2 m3 m4 m5 m6 k1 k2 k3 hz f0 f1 f2 f3; omega
  rw [f4, f3, f2, f1, f0]
  clear f0 f1 f2 f3 f4
  have d0 := bit2 imm 1
  have d1 := bit2 imm 2
  have d2 := bit2 imm 4
  have d3 := bit2 imm 8
  have d4 := bit2 imm 16
  generalize imm / 1 % 2 = i0 at *
  generalize imm / 2 % 2 = i1 at *
  generalize imm / 4 % 2 = i2 at *
  generalize imm / 8 % 2 = i3 at *
  generalize imm / 16 % 2 = i4 at *
  clear hl hu hs hz
  try simp only [Int.reduceToNat, Int.reducePow]
  omega

set_option maxHeartbeats 4000000 in
theorem rp_10 (op rd rs1 rs2 imm : Int) (hf : fitsB (⟨[99, 46, 115, 114, 97, 105], 27, 4, 7, 0, 1, 31, 1, 0, [49, 48, 48, 48, 48, 49, 68, 68, 68, 101, 100, 99, 98, 97, 48, 49]⟩ : PR) op rd rs1 rs2 imm = true) : layV [2, 3, 4, 5, 6] ((imm + 4294967296) / 1) (33793 + ((rd - 8) * 128)) % 65536 = putV (rd % 4294967296) (rs1 % 4294967296) (rs2 % 4294967296) (imm % 4294967296) [49, 48, 48, 48, 48, 49, 68, 68, 68, 101, 100, 99, 98, 97, 48, 49] 0 := by
  simp only [fitsB, Bool.and_eq_true] at hf
  obtain ⟨ho, hm, k1, k2, k3, hz, hl, hu, hs⟩ := hf
  obtain ⟨⟨m1, m2⟩, ⟨m3, m4⟩, m5, m6⟩ := may_regs' op rd rs1 rs2 imm hm
  have ho2 : op = 27 := by simpa using ho
  subst ho2
  try simp [kindB] at k1
  try simp [kindB] at k2
  try simp [kindB] at k3
  try simp at hz
  try simp at hl
  try simp at hu
  try simp at hs
  clear hm ho
  rw [put_10]
  have e : layV [2, 3, 4, 5, 6] ((imm + 4294967296) / 1) (33793 + ((rd - 8) * 128)) = 33793 + ((rd - 8) * 128) + (imm + 4294967296) / 1 % 2 * 2 ^ (2 : Int).toNat + (imm + 4294967296) / 1 / 2 % 2 * 2 ^ (3 : Int).toNat + (imm + 4294967296) / 1 / 2 / 2 % 2 * 2 ^ (4 : Int).toNat + (imm + 4294967296) / 1 / 2 / 2 / 2 % 2 * 2 ^ (5 : Int).toNat + (imm + 4294967296) / 1 / 2 / 2 / 2 / 2 % 2 * 2 ^ (6 : Int).toNat := rfl
  rw [e]
  clear e
  have f0 : (imm + 4294967296) / 1 % 2 = imm / 1 % 2 := by clear m1 m2 m3 m4 m5 m6 k1 k2 k3 hz; omega
  have f1 : (imm + 4294967296) / 1 / 2 % 2 = imm / 2 % 2 := by clear m1 m2 m3 m4 m5 m6 k1 k2 k3 hz f0; omega
  have f2 : (imm + 4294967296) / 1 / 2 / 2 % 2 = imm / 4 % 2 := by clear m1 m2 m3 m4 m5 m6 k1 k2 k3 hz f0 f1; omega
  have f3 : (imm + 4294967296) / 1 / 2 / 2 / 2 % 2 = imm / 8 % 2 := by clear m1 m2 m3 m4 m5 m6 k1 k2 k3 hz f0 f1 f2; omega
  have f4 : (imm + 4294967296) / 1 / 2 / 2 / 2 / 2 % 2 = imm / 16 % 2 := by clear m1 m2 m3 m4 m5 m6 k1 k2 k3 hz f0 f1 f2 f3; omega
  rw [f4, f3, f2, f1, f0]
  clear f0 f1 f2 f3 f4
  have d0 := bit2 imm 1
  have d1 := bit2 imm 2
  have d2 := bit2 imm 4
  have d3 := bit2 imm 8
  have d4 := bit2 imm 16
  generalize imm / 1 % 2 = i0 at *
  generalize imm / 2 % 2 = i1 at *
  generalize imm / 4 % 2 = i2 at *
  generalize imm / 8 % 2 = i3 at *
  generalize imm / 16 % 2 = i4 at *
  clear hl hu hs hz
  try simp only [Int.reduceToNat, Int.reducePow]
  omega

set_option maxHeartbeats 4000000 in
theorem rp_11 (op rd rs1 rs2 imm : Int) (hf : fitsB (⟨[99, 46, 97, 110, 100, 105], 24, 4, 7, 0, (-32), 31, 1, 0, [49, 48, 48, 102, 49, 48, 68, 68, 68, 101, 100, 99, 98, 97, 48, 49]⟩ : PR) op rd rs1 rs2 imm = true) : layV [2, 3, 4, 5, 6, 12] ((imm + 4294967296) / 1) (34817 + ((rd - 8) * 128)) % 65536 = putV (rd % 4294967296) (rs1 % 4294967296) (rs2 % 4294967296) (imm % 4294967296) [49, 48, 48, 102, 49, 48, 68, 68, 68, 101, 100, 99, 98, 97, 48, 49] 0 := by
  simp only [fitsB, Bool.and_eq_true] at hf
  obtain ⟨ho, hm, k1, k2, k3, hz, hl, hu, hs⟩ := hf
  obtain ⟨⟨m1, m2⟩, ⟨m3, m4⟩, m5, m6⟩ := may_regs' op rd rs1 rs2 imm hm
  have ho2 : op = 24 := by simpa using ho
  subst ho2
  try simp [kindB] at k1
  try simp [kindB] at k2
  try simp [kindB] at k3
  try simp at hz
  try simp at hl
  try simp at hu
  try simp at hs
  clear hm ho
  rw [put_11]
  have e : layV [2, 3, 4, 5, 6, 12] ((imm + 4294967296) / 1) (34817 + ((rd - 8) * 128)) = 34817 + ((rd - 8) * 128) + (imm + 4294967296) / 1 % 2 * 2 ^ (2 : Int).toNat + (imm + 4294967296) / 1 / 2 % 2 * 2 ^ (3 : Int).toNat + (imm + 4294967296) / 1 / 2 / 2 % 2 * 2 ^ (4 : Int).toNat + (imm + 4294967296) / 1 / 2 / 2 / 2 % 2 * 2 ^ (5 : Int).toNat + (imm + 4294967296) / 1 / 2 / 2 / 2 / 2 % 2 * 2 ^ (6 : Int).toNat + (imm + 4294967296) / 1 / 2 / 2 / 2 / 2 / 2 % 2 * 2 ^ (12 : Int).toNat := rfl
  rw [e]
  clear e
  have f0 : (imm + 4294967296) / 1 % 2 = imm / 1 % 2 := by clear m1 m2 m3 m4 m5 m6 k1 k2 k3 hz; omega
  have f1 : (imm + 4294967296) / 1 / 2 % 2 = imm / 2 % 2 := by clear m1 m2 m3 m4 m5 m6 k1 k2 k3 hz f0; omega
  have f2 : (imm + 4294967296) / 1 / 2 / 2 % 2 = imm / 4 % 2 := by clear m1 m2 m3 m4 m5 m6 k1 k2 k3 hz f0 f1; omega
  have f3 : (imm + 4294967296) / 1 / 2 / 2 / 2 % 2 = imm / 8 % 2 := by clear m1 m2 m3 m4 m5 m6 k1 k2 k3 hz f0 f1 f2; omega
  have f4 : (imm + 4294967296) / 1 / 2 / 2 / 2 / 2 % 2 = imm / 16 % 2 := by clear m1 m2 m3 m4 m5 m6 k1 k2 k3 hz f0 f1 f2 f3; omega
  have f5 : (imm + 4294967296) / 1 / 2 / 2 / 2 / 2 / 2 % 2 = imm / 32 % 2 := by clear m1 m2 m3 m4 m5 m6 k1 k2 k3 hz f0 f1 f2 f3 f4; omega
  rw [f5, f4, f3, f2, f1, f0]
  clear f0 f1 f2 f3 f4 f5
  have d0 := bit2 imm 1
  have d1 := bit2 imm 2
  have d2 := bit2 imm 4
  have d3 := bit2 imm 8
  have d4 := bit2 imm 16
  have d5 := bit2 imm 32
  generalize imm / 1 % 2 = i0 at *
  generalize imm / 2 % 2 = i1 at *
  generalize imm / 4 % 2 = i2 at *
  generalize imm / 8 % 2 = i3 at *
  generalize imm / 16 % 2 = i4 at *
  generalize imm / 32 % 2 = i5 at *
  clear hl hu hs hz
  try simp only [Int.reduceToNat, Int.reducePow]
  omega

set_option maxHeartbeats 4000000 in
theorem rp_12 (op rd rs1 rs2 imm : Int) (hf : fitsB (⟨[99, 46, 115, 117, 98], 29, 4, 7, 4, 0, 0, 1, 0, [49, 48, 48, 48, 49, 49, 68, 68, 68, 48, 48, 84, 84, 84, 48, 49]⟩ : PR) op rd rs1 rs2 imm = true) : layV [] ((imm + 4294967296) / 1) (35841 + ((rd - 8) * 128 + (rs2 - 8) * 4)) % 65536 = putV (rd % 4294967296) (rs1 % 4294967296) (rs2 % 4294967296) (imm % 4294967296) [49, 48, 48, 48, 49, 49, 68, 68, 68, 48, 48, 84, 84, 84, 48, 49] 0 := by
  simp only [fitsB, Bool.and_eq_true] at hf
  obtain ⟨ho, hm, k1, k2, k3, hz, hl, hu, hs⟩ := hf
  obtain ⟨⟨m1, m2⟩, ⟨m3, m4⟩, m5, m6⟩ := may_regs' op rd rs1 rs2 imm hm
  have ho2 : op = 29 := by simpa using ho
  subst ho2
  try simp [kindB] at k1
  try simp [kindB] at k2
  try simp [kindB] at k3
  try simp at hz
  try simp at hl
  try simp at hu
  try simp at hs
  clear hm ho
  rw [put_12]
  have e : layV [] ((imm + 4294967296) / 1) (35841 + ((rd - 8) * 128 + (rs2 - 8) * 4)) = 35841 + ((rd - 8) * 128 + (rs2 - 8) * 4) := rfl
  rw [e]
  clear e
  clear hl hu hs hz
  try simp only [Int.reduceToNat, Int.reducePow]
  omega

set_option maxHeartbeats 4000000 in
theorem rp_13 (op rd rs1 rs2 imm : Int) (hf : fitsB (⟨[99, 46, 120, 111, 114], 33, 4, 7, 4, 0, 0, 1, 0, [49, 48, 48, 48, 49, 49, 68, 68, 68, 48, 49, 84, 84, 84, 48, 49]⟩ : PR) op rd rs1 rs2 imm = true) : layV [] ((imm + 4294967296) / 1) (35873 + ((rd - 8) * 128 + (rs2 - 8) * 4)) % 65536 = putV (rd % 4294967296) (rs1 % 4294967296) (rs2 % 4294967296) (imm % 4294967296) [49, 48, 48, 48, 49, 49, 68, 68, 68, 48, 49, 84, 84, 84, 48, 49] 0 := by
  simp only [fitsB, Bool.and_eq_true] at hf
  obtain ⟨ho, hm, k1, k2, k3, hz, hl, hu, hs⟩ := hf
  obtain ⟨⟨m1, m2⟩, ⟨m3, m4⟩, m5, m6⟩ := may_regs' op rd rs1 rs2 imm hm
  have ho2 : op = 33 := by simpa using ho
  subst ho2
  try simp [kindB] at k1
  try simp [kindB] at k2
  try simp [kindB] at k3
  try simp at hz
  try simp at hl
  try simp at hu
  try simp at hs
  clear hm ho
  rw [put_13]
  have e : layV [] ((imm + 4294967296) / 1) (35873 + ((rd - 8) * 128 + (rs2 - 8) * 4)) = 35873 + ((rd - 8) * 128 + (rs2 - 8) * 4) := rfl
  rw [e]
  clear e
  clear hl hu hs hz
  try simp only [Int.reduceToNat, Int.reducePow]
  omega

set_option maxHeartbeats 4000000 in
theorem rp_14 (op rd rs1 rs2 imm : Int) (hf : fitsB (⟨[99, 46, 111, 114], 36, 4, 7, 4, 0, 0, 1, 0, [49, 48, 48, 48, 49, 49, 68, 68, 68, 49, 48, 84, 84, 84, 48, 49]⟩ : PR) op rd rs1 rs2 imm = true) : layV [] ((imm + 4294967296) / 1) (35905 + ((rd - 8) * 128 + (rs2 - 8) * 4)) % 65536 = putV (rd % 4294967296) (rs1 % 4294967296) (rs2 % 4294967296) (imm % 4294967296) [49, 48, 48, 48, 49, 49, 68, 68, 68, 49, 48, 84, 84, 84, 48, 49] 0 := by
  simp only [fitsB, Bool.and_eq_true] at hf
  obtain ⟨ho, hm, k1, k2, k3, hz, hl, hu, hs⟩ := hf
  obtain ⟨⟨m1, m2⟩, ⟨m3, m4⟩, m5, m6⟩ := may_regs' op rd rs1 rs2 imm hm
  have ho2 : op = 36 := by simpa using ho
  subst ho2
  try simp [kindB] at k1
  try simp [kindB] at k2
  try simp [kindB] at k3
  try simp at hz
  try simp at hl
  try simp at hu
  try simp at hs
  clear hm ho
  rw [put_14]
  have e : layV [] ((imm + 4294967296) / 1) (35905 + ((rd - 8) * 128 + (rs2 - 8) * 4)) = 35905 + ((rd - 8) * 128 + (rs2 - 8) * 4) := rfl
  rw [e]
  clear e
  clear hl hu hs hz
  try simp only [Int.reduceToNat, Int.reducePow]
  omega

set_option maxHeartbeats 4000000 in
theorem rp_15 (op rd rs1 rs2 imm : Int) (hf : fitsB (⟨[99, 46, 97, 110, 100], 37, 4, 7, 4, 0, 0, 1, 0, [49, 48, 48, 48, 49, 49, 68, 68, 68, 49, 49, 84, 84, 84, 48, 49]⟩ : PR) op rd rs1 rs2 imm = true) : layV [] ((imm + 4294967296) / 1) (35937 + ((rd - 8) * 128 + (rs2 - 8) * 4)) % 65536 = putV (rd % 4294967296) (rs1 % 4294967296) (rs2 % 4294967296) (imm % 4294967296) [49, 48, 48, 48, 49, 49, 68, 68, 68, 49, 49, 84, 84, 84, 48, 49] 0 := by
  simp only [fitsB, Bool.and_eq_true] at hf
  obtain ⟨ho, hm, k1, k2, k3, hz, hl, hu, hs⟩ := hf
  obtain ⟨⟨m1, m2⟩, ⟨m3, m4⟩, m5, m6⟩ := may_regs' op rd rs1 rs2 imm hm
  have ho2 : op = 37 := by simpa using ho
  subst ho2
  try simp [kindB] at k1
  try simp [kindB] at k2
  try simp [kindB] at k3
  try simp at hz
  try simp at hl
  try simp at hu
  try simp at hs
  clear hm ho
  rw [put_15]
  have e : layV [] ((imm + 4294967296) / 1) (35937 + ((rd - 8) * 128 + (rs2 - 8) * 4)) = 35937 + ((rd - 8) * 128 + (rs2 - 8) * 4) := rfl
  rw [e]
  clear e
  clear hl hu hs hz
  try simp only [Int.reduceToNat, Int.reducePow]
  omega

set_option maxHeartbeats 4000000 in
theorem rp_16 (op rd rs1 rs2 imm : Int) (hf : fitsB (⟨[99, 46, 106], 3, 0, 0, 0, (-2048), 2046, 2, 0, [49, 48, 49, 108, 101, 106, 105, 107, 103, 104, 100, 99, 98, 102, 48, 49]⟩ : PR) op rd rs1 rs2 imm = true) : layV [3, 4, 5, 11, 2, 7, 6, 9, 10, 8, 12] ((imm + 4294967296) / 2) (40961 + (0)) % 65536 = putV (rd % 4294967296) (rs1 % 4294967296) (rs2 % 4294967296) (imm % 4294967296) [49, 48, 49, 108, 101, 106, 105, 107, 103, 104, 100, 99, 98, 102, 48, 49] 0 := by
  simp only [fitsB, Bool.and_eq_true] at hf
  obtain ⟨ho, hm, k1, k2, k3, hz, hl, hu, hs⟩ := hf
  obtain ⟨⟨m1, m2⟩, ⟨m3, m4⟩, m5, m6⟩ := may_regs' op rd rs1 rs2 imm hm
  have ho2 : op = 3 := by simpa using ho
  subst ho2
  try simp [kindB] at k1
  try simp [kindB] at k2
  try simp [kindB] at k3
  try simp at hz
  try simp at hl
  try simp at hu
  try simp at hs
  clear hm ho
  rw [put_16]
  have e : layV [3, 4, 5, 11, 2, 7, 6, 9, 10, 8, 12] ((imm + 4294967296) / 2) (40961 + (0)) = 40961 + (0) + (imm + 4294967296) / 2 % 2 * 2 ^ (3 : Int).toNat + (imm + 4294967296) / 2 / 2 % 2 * 2 ^ (4 : Int).toNat + (imm + 4294967296) / 2 / 2 / 2 % 2 * 2 ^ (5 : Int).toNat + (imm + 4294967296) / 2 / 2 / 2 / 2 % 2 * 2 ^ (11 : Int).toNat + (imm + 4294967296) / 2 / 2 / 2 / 2 / 2 % 2 * 2 ^ (2 : Int).toNat + (imm + 4294967296) / 2 / 2 / 2 / 2 / 2 / 2 % 2 * 2 ^ (7 : Int).toNat + (imm + 4294967296) / 2 / 2 / 2 / 2 / 2 / 2 / 2 % 2 * 2 ^ (6 : Int).toNat + (imm + 4294967296) / 2 / 2 / 2 / 2 / 2 / 2 / 2 / 2 % 2 * 2 ^ (9 : Int).toNat + (imm + 4294967296) / 2 / 2 / 2 / 2 / 2 / 2 / 2 / 2 / 2 % 2 * 2 ^ (10 : Int).toNat + (imm + 4294967296) / 2 / 2 / 2 / 2 / 2 / 2 / 2 / 2 / 2 / 2 % 2 * 2 ^ (8 : Int).toNat + (imm + 4294967296) / 2 / 2 / 2 / 2 / 2 / 2 / 2 / 2 / 2 / 2 / 2 % 2 * 2 ^ (12 : Int).toNat := rfl
  rw [e]
  clear e
  have f0 : (imm + 4294967296) / 2 % 2 = imm / 2 % 2 := by clear m1 m2 m3 m4 m5 m6 k1 k2 k3 hz; omega
  have f1 : (imm + 4294967296) / 2 / 2 % 2 = imm / 4 % 2 := by clear m1 m2 m3 m4 m5 m6 k1 k2 k3 hz f0; omega
  have f2 : (imm + 4294967296) / 2 / 2 / 2 % 2 = imm / 8 % 2 := by clear m1 m2 m3 m4 m5 m6 k1 k2 k3 hz f0 f1; omega
  have f3 : (imm + 4294967296) / 2 / 2 / 2 / 2 % 2 = imm / 16 % 2 := by clear m1 m2 m3 m4 m5 m6 k1 k2 k3 hz f0 f1 f2; omega
  have f4 : (imm + 4294967296) / 2 / 2 / 2 / 2 / 2 % 2 = imm / 32 % 2 := by clear m1 m2 m3 m4 m5 m6 k1 k2 k3 hz f0 f1 f2 f3; omega
  have f5 : (imm + 4294967296) / 2 / 2 / 2 / 2 / 2 / 2 % 2 = imm / 64 % 2 := by clear m1 m2 m3 m4 m5 m6 k1 k2 k3 hz f0 f1 f2 f3 f4; omega
  have f6 : (imm + 4294967296) / 2 / 2 / 2 / 2 / 2 / 2 / 2 % 2 = imm / 128 % 2 := by clear m1 m2 m3 m4 m5 m6 k1 k2 k3 hz f0 f1 f2 f3 f4 f5; omega
  have f7 : (imm + 4294967296) / 2 / 2 / 2 / 2 / 2 / 2 / 2 / 2 % 2 = imm / 256 % 2 := by clear m1 m2 m3 m4 m5 m6 k1 k2 k3 hz f0 f1 f2 f3 f4 f5 f6; omega
  have f8 : (imm + 4294967296) / 2 / 2 / 2 / 2 / 2 / 2 / 2 / 2 / 2 % 2 = imm / 512 % 2 := by clear m1 m2 m3 m4 m5 m6 k1 k2 k3 hz f0 f1 f2 f3 f4 f5 f6 f7; omega
  have f9 : (imm + 4294967296) / 2 / 2 / 2 / 2 / 2 / 2 / 2 / 2 / 2 / 2 % 2 = imm / 1024 % 2 := by clear m1 m2 m3 m4 m5 m6 k1 k2 k3 hz f0 f1 f2 f3 f4 f5 f6 f7 f8; omega
  have f10 : (imm + 4294967296) / 2 / 2 / 2 / 2 / 2 / 2 / 2 / 2 / 2 / 2 / 2 % 2 = imm / 2048 % 2 := by clear m1 m2 m3 m4 m5 m6 k1 k2 k3 hz f0 f1 f2 f3 f4 f5 f6 f7 f8 f9; omega
  rw [f10, f9, f8, f7, f6, f5, f4, f3, f2, f1, f0]
  clear f0 f1 f2 f3 f4 f5 f6 f7 f8 f9 f10
  have d0 := bit2 imm 2
  have d1 := bit2 imm 4
  have d2 := bit2 imm 8
  have d3 := bit2 imm 16
  have d4 := bit2 imm 32
  have d5 := bit2 imm 64
  have d6 := bit2 imm 128
  have d7 := bit2 imm 256
  have d8 := bit2 imm 512
  have d9 := bit2 imm 1024
  have d10 := bit2 imm 2048
  generalize imm / 2 % 2 = i0 at *
  generalize imm / 4 % 2 = i1 at *
  generalize imm / 8 % 2 = i2 at *
  generalize imm / 16 % 2 = i3 at *
  generalize imm / 32 % 2 = i4 at *
  generalize imm / 64 % 2 = i5 at *
  generalize imm / 128 % 2 = i6 at *
  generalize imm / 256 % 2 = i7 at *
  generalize imm / 512 % 2 = i8 at *
  generalize imm / 1024 % 2 = i9 at *
  generalize imm / 2048 % 2 = i10 at *
  clear hl hu hs hz
  try simp only [Int.reduceToNat, Int.reducePow]
  omega

set_option maxHeartbeats 4000000 in
theorem rp_17 (op rd rs1 rs2 imm : Int) (hf : fitsB (⟨[99, 46, 98, 101, 113, 122], 5, 0, 4, 0, (-256), 254, 2, 0, [49, 49, 48, 105, 101, 100, 83, 83, 83, 104, 103, 99, 98, 102, 48, 49]⟩ : PR) op rd rs1 rs2 imm = true) : layV [3, 4, 10, 11, 2, 5, 6, 12] ((imm + 4294967296) / 2) (49153 + ((rs1 - 8) * 128)) % 65536 = putV (rd % 4294967296) (rs1 % 4294967296) (rs2 % 4294967296) (imm % 4294967296) [49, 49, 48, 105, 101, 100, 83, 83, 83, 104, 103, 99, 98, 102, 48, 49] 0 := by
  simp only [fitsB, Bool.and_eq_true] at hf
  obtain ⟨ho, hm, k1, k2, k3, hz, hl, hu, hs⟩ := hf
  obtain ⟨⟨m1, m2⟩, ⟨m3, m4⟩, m5, m6⟩ := may_regs' op rd rs1 rs2 imm hm
  have ho2 : op = 5 := by simpa using ho
  subst ho2
  try simp [kindB] at k1
  try simp [kindB] at k2
  try simp [kindB] at k3
  try simp at hz
  try simp at hl
  try simp at hu
  try simp at hs
  clear hm ho
  rw [put_17]
  have e : layV [3, 4, 10, 11, 2, 5, 6, 12] ((imm + 4294967296) / 2) (49153 + ((rs1 - 8) * 128)) = 49153 + ((rs1 - 8) * 128) + (imm + 4294967296) / 2 % 2 * 2 ^ (3 : Int).toNat + (imm + 4294967296) / 2 / 2 % 2 * 2 ^ (4 : Int).toNat + (imm + 4294967296) / 2 / 2 / 2 % 2 * 2 ^ (10 : Int).toNat + (imm + 4294967296) / 2 / 2 / 2 / 2 % 2 * 2 ^ (11 : Int).toNat + (imm + 4294967296) / 2 / 2 / 2 / 2 / 2 % 2 * 2 ^ (2 : Int).toNat + (imm + 4294967296) / 2 / 2 / 2 / 2 / 2 / 2 % 2 * 2 ^ (5 : Int).toNat + (imm + 4294967296) / 2 / 2 / 2 / 2 / 2 / 2 / 2 % 2 * 2 ^ (6 : Int).toNat + (imm + 4294967296) / 2 / 2 / 2 / 2 / 2 / 2 / 2 / 2 % 2 * 2 ^ (12 : Int).toNat := rfl
  rw [e]
  clear e
  have f0 : (imm + 4294967296) / 2 % 2 = imm / 2 % 2 := by clear m1 m2 m3 m4 m5 m6 k1 k2 k3 hz; omega
  have f1 : (imm + 4294967296) / 2 / 2 % 2 = imm / 4 % 2 := by clear m1 m2 m3 m4 m5 m6 k1 k2 k3 hz f0; omega
  have f2 : (imm + 4294967296) / 2 / 2 / 2 % 2 = imm / 8 % 2 := by clear m1 m2 m3 m4 m5 m6 k1 k2 k3 hz f0 f1; omega
  have f3 : (imm + 4294967296) / 2 / 2 / 2 / 2 % 2 = imm / 16 % 2 := by clear m1 m2 m3 m4 m5 m6 k1 k2 k3 hz f0 f1 f2; omega
  have f4 : (imm + 4294967296) / 2 / 2 / 2 / 2 / 2 % 2 = imm / 32 % 2 := by clear m1 m2 m3 m4 m5 m6 k1 k2 k3 hz f0 f1 f2 f3; omega
  have f5 : (imm + 4294967296) / 2 / 2 / 2 / 2 / 2 / 2 % 2 = imm / 64 % 2 := by clear m1 m2 m3 m4 m5 m6 k1 k2 k3 hz f0 f1 f2 f3 f4; omega
  have f6 : (imm + 4294967296) / 2 / 2 / 2 / 2 / 2 / 2 / 2 % 2 = imm / 128 % 2 := by clear m1 m2 m3 m4 m5 m6 k1 k2 k3 hz f0 f1 f2 f3 f4 f5; omega
  have f7 : (imm + 4294967296) / 2 / 2 / 2 / 2 / 2 / 2 / 2 / 2 % 2 = imm / 256 % 2 := by clear m1 m2 m3 m4 m5 m6 k1 k2 k3 hz f0 f1 f2 f3 f4 f5 f6; omega
  rw [f7, f6, f5, f4, f3, f2, f1, f0]
  clear f0 f1 f2 f3 f4 f5 f6 f7
  have d0 := bit2 imm 2
  have d1 := bit2 imm 4
  have d2 := bit2 imm 8
  have d3 := bit2 imm 16
  have d4 := bit2 imm 32
  have d5 := bit2 imm 64
  have d6 := bit2 imm 128
  have d7 := bit2 imm 256
  generalize imm / 2 % 2 = i0 at *
  generalize imm / 4 % 2 = i1 at *
  generalize imm / 8 % 2 = i2 at *
  generalize imm / 16 % 2 = i3 at *
  generalize imm / 32 % 2 = i4 at *
  generalize imm / 64 % 2 = i5 at *
  generalize imm / 128 % 2 = i6 at *
  generalize imm / 256 % 2 = i7 at *
  clear hl hu hs hz
  try simp only [Int.reduceToNat, Int.reducePow]
  omega

set_option maxHeartbeats 4000000 in
theorem rp_18 (op rd rs1 rs2 imm : Int) (hf : fitsB (⟨[99, 46, 98, 110, 101, 122], 6, 0, 4, 0, (-256), 254, 2, 0, [49, 49, 49, 105, 101, 100, 83, 83, 83, 104, 103, 99, 98, 102, 48, 49]⟩ : PR) op rd rs1 rs2 imm = true) : layV [3, 4, 10, 11, 2, 5, 6, 12] ((imm + 4294967296) / 2) (57345 + ((rs1 - 8) * 128)) % 65536 = putV (rd % 4294967296) (rs1 % 4294967296) (rs2 % 4294967296) (imm % 4294967296) [49, 49, 49, 105, 101, 100, 83, 83, 83, 104, 103, 99, 98, 102, 48, 49] 0 := by
  simp only [fitsB, Bool.and_eq_true] at hf
  obtain ⟨ho, hm, k1, k2, k3, hz, hl, hu, hs⟩ := hf
  obtain ⟨⟨m1, m2⟩, ⟨m3, m4⟩, m5, m6⟩ := may_regs' op rd rs1 rs2 imm hm
  have ho2 : op = 6 := by simpa using ho
  subst ho2
  try simp [kindB] at k1
  try simp [kindB] at k2
  try simp [kindB] at k3
  try simp at hz
  try simp at hl
  try simp at hu
  try simp at hs
  clear hm ho
  rw [put_18]
  have e : layV [3, 4, 10, 11, 2, 5, 6, 12] ((imm + 4294967296) / 2) (57345 + ((rs1 - 8) * 128)) = 57345 + ((rs1 - 8) * 128) + (imm + 4294967296) / 2 % 2 * 2 ^ (3 : Int).toNat + (imm + 4294967296) / 2 / 2 % 2 * 2 ^ (4 : Int).toNat + (imm + 4294967296) / 2 / 2 / 2 % 2 * 2 ^ (10 : Int).toNat + (imm + 4294967296) / 2 / 2 / 2 / 2 % 2 * 2 ^ (11 : Int).toNat + (imm + 4294967296) / 2 / 2 / 2 / 2 / 2 % 2 * 2 ^ (2 : Int).toNat + (imm + 4294967296) / 2 / 2 / 2 / 2 / 2 / 2 % 2 * 2 ^ (5 : Int).toNat + (imm + 4294967296) / 2 / 2 / 2 / 2 / 2 / 2 / 2 % 2 * 2 ^ (6 : Int).toNat + (imm + 4294967296) / 2 / 2 / 2 / 2 / 2 / 2 / 2 / 2 % 2 * 2 ^ (12 : Int).toNat := rfl
  rw [e]
  clear e
  have f0 : (imm + 4294967296) / 2 % 2 = imm / 2 % 2 := by clear m1 m2 m3 m4 m5 m6 k1 k2 k3 hz; omega
  have f1 : (imm + 4294967296) / 2 / 2 % 2 = imm / 4 % 2 := by clear m1 m2 m3 m4 m5 m6 k1 k2 k3 hz f0; omega
  have f2 : (imm + 4294967296) / 2 / 2 / 2 % 2 = imm / 8 % 2 := by clear m1 m2 m3 m4 m5 m6 k1 k2 k3 hz f0 f1; omega
  have f3 : (imm + 4294967296) / 2 / 2 / 2 / 2 % 2 = imm / 16 % 2 := by clear m1 m2 m3 m4 m5 m6 k1 k2 k3 hz f0 f1 f2; omega
  have f4 : (imm + 4294967296) / 2 / 2 / 2 / 2 / 2 % 2 = imm / 32 % 2 := by clear m1 m2 m3 m4 m5 m6 k1 k2 k3 hz f0 f1 f2 f3; omega
  have f5 : (imm + 4294967296) / 2 / 2 / 2 / 2 / 2 / 2 % 2 = imm / 64 % 2 := by clear m1 m2 m3 m4 m5 m6 k1 k2 k3 hz f0 f1 f2 f3 f4; omega
  have f6 : (imm + 4294967296) / 2 / 2 / 2 / 2 / 2 / 2 / 2 % 2 = imm / 128 % 2 := by clear m1 m2 m3 m4 m5 m6 k1 k2 k3 hz f0 f1 f2 f3 f4 f5; omega
  have f7 : (imm + 4294967296) / 2 / 2 / 2 / 2 / 2 / 2 / 2 / 2 % 2 = imm / 256 % 2 := by clear m1 m2 m3 m4 m5 m6 k1 k2 k3 hz f0 f1 f2 f3 f4 f5 f6; omega
  rw [f7, f6, f5, f4, f3, f2, f1, f0]
  clear f0 f1 f2 f3 f4 f5 f6 f7
  have d0 := bit2 imm 2
  have d1 := bit2 imm 4
  have d2 := bit2 imm 8
  have d3 := bit2 imm 16
  have d4 := bit2 imm 32
  have d5 := bit2 imm 64
  have d6 := bit2 imm 128
  have d7 := bit2 imm 256
  generalize imm / 2 % 2 = i0 at *
  generalize imm / 4 % 2 = i1 at *
  generalize imm / 8 % 2 = i2 at *
  generalize imm / 16 % 2 = i3 at *
  generalize imm / 32 % 2 = i4 at *
  generalize imm / 64 % 2 = i5 at *
  generalize imm / 128 % 2 = i6 at *
  generalize imm / 256 % 2 = i7 at *
  clear hl hu hs hz
  try simp only [Int.reduceToNat, Int.reducePow]
  omega

set_option maxHeartbeats 4000000 in
theorem rp_19 (op rd rs1 rs2 imm : Int) (hf : fitsB (⟨[99, 46, 115, 108, 108, 105], 25, 5, 7, 0, 1, 31, 1, 0, [48, 48, 48, 48, 68, 68, 68, 68, 68, 101, 100, 99, 98, 97, 49, 48]⟩ : PR) op rd rs1 rs2 imm = true) : layV [2, 3, 4, 5, 6] ((imm + 4294967296) / 1) (2 + (rd * 128)) % 65536 = putV (rd % 4294967296) (rs1 % 4294967296) (rs2 % 4294967296) (imm % 4294967296) [48, 48, 48, 48, 68, 68, 68, 68, 68, 101, 100, 99, 98, 97, 49, 48] 0 := by
  simp only [fitsB, Bool.and_eq_true] at hf
  obtain ⟨ho, hm, k1, k2, k3, hz, hl, hu, hs⟩ := hf
  obtain ⟨⟨m1, m2⟩, ⟨m3, m4⟩, m5, m6⟩ := may_regs' op rd rs1 rs2 imm hm
  have ho2 : op = 25 := by simpa using ho
  subst ho2
  try simp [kindB] at k1
  try simp [kindB] at k2
  try simp [kindB] at k3
  try simp at hz
  try simp at hl
  try simp at hu
  try simp at hs
  clear hm ho
  rw [put_19]
  have e : layV [2, 3, 4, 5, 6] ((imm + 4294967296) / 1) (2 + (rd * 128)) = 2 + (rd * 128) + (imm + 4294967296) / 1 % 2 * 2 ^ (2 : Int).toNat + (imm + 4294967296) / 1 / 2 % 2 * 2 ^ (3 : Int).toNat + (imm + 4294967296) / 1 / 2 / 2 % 2 * 2 ^ (4 : Int).toNat + (imm + 4294967296) / 1 / 2 / 2 / 2 % 2 * 2 ^ (5 : Int).toNat + (imm + 4294967296) / 1 / 2 / 2 / 2 / 2 % 2 * 2 ^ (6 : Int).toNat := rfl
  rw [e]
  clear e
  have f0 : (imm + 4294967296) / 1 % 2 = imm / 1 % 2 := by clear m1 m2 m3 m4 m5 m6 k1 k2 k3 hz; omega
  have f1 : (imm + 4294967296) / 1 / 2 % 2 = imm / 2 % 2 := by clear m1 m2 m3 m4 m5 m6 k1 k2 k3 hz f0; omega
  have f2 : (imm + 4294967296) / 1 / 2 / 2 % 2 = imm / 4 % 2 := by clear m1 m2 m3 m4 m5 m6 k1 k2 k3 hz f0 f1; omega
  have f3 : (imm + 4294967296) / 1 / 2 / 2 / 2 % 2 = imm / 8 % 2 := by clear m1 m2 m3 m4 m5 m6 k1 k2 k3 hz f0 f1 f2; omega
  have f4 : (imm + 4294967296) / 1 / 2 / 2 / 2 / 2 % 2 = imm / 16 % 2 := by clear m1 m2 m3 m4 m5 m6 k1 k2 k3 hz f0 f1 f2 f3; omega
  rw [f4, f3, f2, f1, f0]
  clear f0 f1 f2 f3 f4
  have d0 := bit2 imm 1
  have d1 := bit2 imm 2
  have d2 := bit2 imm 4
  have d3 := bit2 imm 8
  have d4 := bit2 imm 16
  generalize imm / 1 % 2 = i0 at *
  generalize imm / 2 % 2 = i1 at *
  generalize imm / 4 % 2 = i2 at *
  generalize imm / 8 % 2 = i3 at *
  generalize imm / 16 % 2 = i4 at *
  clear hl hu hs hz
  try simp only [Int.reduceToNat, Int.reducePow]
  omega

set_option maxHeartbeats 4000000 in
theorem rp_20 (op rd rs1 rs2 imm : Int) (hf : fitsB (⟨[99, 46, 108, 119, 115, 112], 13, 5, 2, 0, 0, 252, 4, 0, [48, 49, 48, 102, 68, 68, 68, 68, 68, 101, 100, 99, 104, 103, 49, 48]⟩ : PR) op rd rs1 rs2 imm = true) : layV [4, 5, 6, 12, 2, 3] ((imm + 4294967296) / 4) (16386 + (rd * 128)) % 65536 = putV (rd % 4294967296) (rs1 % 4294967296) (rs2 % 4294967296) (imm % 4294967296) [48, 49, 48, 102, 68, 68, 68, 68, 68, 101, 100, 99, 104, 103, 49, 48] 0 := by
  simp only [fitsB, Bool.and_eq_true] at hf
  obtain ⟨ho, hm, k1, k2, k3, hz, hl, hu, hs⟩ := hf
  obtain ⟨⟨m1, m2⟩, ⟨m3, m4⟩, m5, m6⟩ := may_regs' op rd rs1 rs2 imm hm
  have ho2 : op = 13 := by simpa using ho
  subst ho2
  try simp [kindB] at k1
  try simp [kindB] at k2
  try simp [kindB] at k3
  try simp at hz
  try simp at hl
  try simp at hu
  try simp at hs
  clear hm ho
  rw [put_20]
  have e : layV [4, 5, 6, 12, 2, 3] ((imm + 4294967296) / 4) (16386 + (rd * 128)) = 16386 + (rd * 128) + (imm + 4294967296) / 4 % 2 * 2 ^ (4 : Int).toNat + (imm + 4294967296) / 4 / 2 % 2 * 2 ^ (5 : Int).toNat + (imm + 4294967296) / 4 / 2 / 2 % 2 * 2 ^ (6 : Int).toNat + (imm + 4294967296) / 4 / 2 / 2 / 2 % 2 * 2 ^ (12 : Int).toNat + (imm + 4294967296) / 4 / 2 / 2 / 2 / 2 % 2 * 2 ^ (2 : Int).toNat + (imm + 4294967296) / 4 / 2 / 2 / 2 / 2 / 2 % 2 * 2 ^ (3 : Int).toNat := rfl
  rw [e]
  clear e
  have f0 : (imm + 4294967296) / 4 % 2 = imm / 4 % 2 := by clear m1 m2 m3 m4 m5 m6 k1 k2 k3 hz; omega
  have f1 : (imm + 4294967296) / 4 / 2 % 2 = imm / 8 % 2 := by clear m1 m2 m3 m4 m5 m6 k1 k2 k3 hz f0; omega
  have f2 : (imm + 4294967296) / 4 / 2 / 2 % 2 = imm / 16 % 2 := by clear m1 m2 m3 m4 m5 m6 k1 k2 k3 hz f0 f1; omega
  have f3 : (imm + 4294967296) / 4 / 2 / 2 / 2 % 2 = imm / 32 % 2 := by clear m1 m2 m3 m4 m5 m6 k1 k2 k3 hz f0 f1 f2; omega
  have f4 : (imm + 4294967296) / 4 / 2 / 2 / 2 / 2 % 2 = imm / 64 % 2 := by clear m1 m2 m3 m4 m5 m6 k1 k2 k3 hz f0 f1 f2 f3; omega
  have f5 : (imm + 4294967296) / 4 / 2 / 2 / 2 / 2 / 2 % 2 = imm / 128 % 2 := by clear m1 m2 m3 m4 m5 m6 k1 k2 k3 hz f0 f1 f2 f3 f4; omega
  rw [f5, f4, f3, f2, f1, f0]
  clear f0 f1 f2 f3 f4 f5
  have d0 := bit2 imm 4
  have d1 := bit2 imm 8
  have d2 := bit2 imm 16
  have d3 := bit2 imm 32
  have d4 := bit2 imm 64
  have d5 := bit2 imm 128
  generalize imm / 4 % 2 = i0 at *
  generalize imm / 8 % 2 = i1 at *
  generalize imm / 16 % 2 = i2 at *
  generalize imm / 32 % 2 = i3 at *
  generalize imm / 64 % 2 = i4 at *
  generalize imm / 128 % 2 = i5 at *
  clear hl hu hs hz
  try simp only [Int.reduceToNat, Int.reducePow]
  omega

set_option maxHeartbeats 4000000 in
theorem rp_21 (op rd rs1 rs2 imm : Int) (hf : fitsB (⟨[99, 46, 106, 114], 4, 0, 5, 0, 0, 0, 1, 0, [49, 48, 48, 48, 83, 83, 83, 83, 83, 48, 48, 48, 48, 48, 49, 48]⟩ : PR) op rd rs1 rs2 imm = true) : layV [] ((imm + 4294967296) / 1) (32770 + (rs1 * 128)) % 65536 = putV (rd % 4294967296) (rs1 % 4294967296) (rs2 % 4294967296) (imm % 4294967296) [49, 48, 48, 48, 83, 83, 83, 83, 83, 48, 48, 48, 48, 48, 49, 48] 0 := by
  simp only [fitsB, Bool.and_eq_true] at hf
  obtain ⟨ho, hm, k1, k2, k3, hz, hl, hu, hs⟩ := hf
  obtain ⟨⟨m1, m2⟩, ⟨m3, m4⟩, m5, m6⟩ := may_regs' op rd rs1 rs2 imm hm
  have ho2 : op = 4 := by simpa using ho
  subst ho2
  try simp [kindB] at k1
  try simp [kindB] at k2
  try simp [kindB] at k3
  try simp at hz
  try simp at hl
  try simp at hu
  try simp at hs
  clear hm ho
  rw [put_21]
  have e : layV [] ((imm + 4294967296) / 1) (32770 + (rs1 * 128)) = 32770 + (rs1 * 128) := rfl
  rw [e]
  clear e
  clear hl hu hs hz
  try simp only [Int.reduceToNat, Int.reducePow]
  omega

set_option maxHeartbeats 4000000 in
theorem rp_22 (op rd rs1 rs2 imm : Int) (hf : fitsB (⟨[99, 46, 109, 118], 28, 5, 0, 5, 0, 0, 1, 0, [49, 48, 48, 48, 68, 68, 68, 68, 68, 84, 84, 84, 84, 84, 49, 48]⟩ : PR) op rd rs1 rs2 imm = true) : layV [] ((imm + 4294967296) / 1) (32770 + (rd * 128 + rs2 * 4)) % 65536 = putV (rd % 4294967296) (rs1 % 4294967296) (rs2 % 4294967296) (imm % 4294967296) [49, 48, 48, 48, 68, 68, 68, 68, 68, 84, 84, 84, 84, 84, 49, 48] 0 := by
  simp only [fitsB, Bool.and_eq_true] at hf
  obtain ⟨ho, hm, k1, k2, k3, hz, hl, hu, hs⟩ := hf
  obtain ⟨⟨m1, m2⟩, ⟨m3, m4⟩, m5, m6⟩ := may_regs' op rd rs1 rs2 imm hm
  have ho2 : op = 28 := by simpa using ho
  subst ho2
  try simp [kindB] at k1
  try simp [kindB] at k2
  try simp [kindB] at k3
  try simp at hz
  try simp at hl
  try simp at hu
  try simp at hs
  clear hm ho
  rw [put_22]
  have e : layV [] ((imm + 4294967296) / 1) (32770 + (rd * 128 + rs2 * 4)) = 32770 + (rd * 128 + rs2 * 4) := rfl
  rw [e]
  clear e
  clear hl hu hs hz
  try simp only [Int.reduceToNat, Int.reducePow]
  omega

set_option maxHeartbeats 4000000 in
theorem rp_23 (op rd rs1 rs2 imm : Int) (hf : fitsB (⟨[99, 46, 101, 98, 114, 101, 97, 107], 40, 0, 0, 0, 0, 0, 1, 0, [49, 48, 48, 49, 48, 48, 48, 48, 48, 48, 48, 48, 48, 48, 49, 48]⟩ : PR) op rd rs1 rs2 imm = true) : layV [] ((imm + 4294967296) / 1) (36866 + (0)) % 65536 = putV (rd % 4294967296) (rs1 % 4294967296) (rs2 % 4294967296) (imm % 4294967296) [49, 48, 48, 49, 48, 48, 48, 48, 48, 48, 48, 48, 48, 48, 49, 48] 0 := by
  simp only [fitsB, Bool.and_eq_true] at hf
  obtain ⟨ho, hm, k1, k2, k3, hz, hl, hu, hs⟩ := hf
  obtain ⟨⟨m1, m2⟩, ⟨m3, m4⟩, m5, m6⟩ := may_regs' op rd rs1 rs2 imm hm
  have ho2 : op = 40 := by simpa using ho
  subst ho2
  try simp [kindB] at k1
  try simp [kindB] at k2
  try simp [kindB] at k3
  try simp at hz
  try simp at hl
  try simp at hu
  try simp at hs
  clear hm ho
  rw [put_23]
  have e : layV [] ((imm + 4294967296) / 1) (36866 + (0)) = 36866 + (0) := rfl
  rw [e]
  clear e
  clear hl hu hs hz
  try simp only [Int.reduceToNat, Int.reducePow]
  omega

set_option maxHeartbeats 4000000 in
theorem rp_24 (op rd rs1 rs2 imm : Int) (hf : fitsB (⟨[99, 46, 106, 97, 108, 114], 4, 1, 5, 0, 0, 0, 1, 0, [49, 48, 48, 49, 83, 83, 83, 83, 83, 48, 48, 48, 48, 48, 49, 48]⟩ : PR) op rd rs1 rs2 imm = true) : layV [] ((imm + 4294967296) / 1) (36866 + (rs1 * 128)) % 65536 = putV (rd % 4294967296) (rs1 % 4294967296) (rs2 % 4294967296) (imm % 4294967296) [49, 48, 48, 49, 83, 83, 83, 83, 83, 48, 48, 48, 48, 48, 49, 48] 0 := by
  simp only [fitsB, Bool.and_eq_true] at hf
  obtain ⟨ho, hm, k1, k2, k3, hz, hl, hu, hs⟩ := hf
  obtain ⟨⟨m1, m2⟩, ⟨m3, m4⟩, m5, m6⟩ := may_regs' op rd rs1 rs2 imm hm
  have ho2 : op = 4 := by simpa using ho
  subst ho2
  try simp [kindB] at k1
  try simp [kindB] at k2
  try simp [kindB] at k3
  try simp at hz
  try simp at hl
  try simp at hu
  try simp at hs
  clear hm ho
  rw [put_24]
  have e : layV [] ((imm + 4294967296) / 1) (36866 + (rs1 * 128)) = 36866 + (rs1 * 128) := rfl
  rw [e]
  clear e
  clear hl hu hs hz
  try simp only [Int.reduceToNat, Int.reducePow]
  omega

set_option maxHeartbeats 4000000 in
theorem rp_25 (op rd rs1 rs2 imm : Int) (hf : fitsB (⟨[99, 46, 97, 100, 100], 28, 5, 7, 5, 0, 0, 1, 0, [49, 48, 48, 49, 68, 68, 68, 68, 68, 84, 84, 84, 84, 84, 49, 48]⟩ : PR) op rd rs1 rs2 imm = true) : layV [] ((imm + 4294967296) / 1) (36866 + (rd * 128 + rs2 * 4)) % 65536 = putV (rd % 4294967296) (rs1 % 4294967296) (rs2 % 4294967296) (imm % 4294967296) [49, 48, 48, 49, 68, 68, 68, 68, 68, 84, 84, 84, 84, 84, 49, 48] 0 := by
  simp only [fitsB, Bool.and_eq_true] at hf
  obtain ⟨ho, hm, k1, k2, k3, hz, hl, hu, hs⟩ := hf
  obtain ⟨⟨m1, m2⟩, ⟨m3, m4⟩, m5, m6⟩ := may_regs' op rd rs1 rs2 imm hm
  have ho2 : op = 28 := by simpa using ho
  subst ho2
  try simp [kindB] at k1
  try simp [kindB] at k2
  try simp [kindB] at k3
  try simp at hz
  try simp at hl
  try simp at hu
  try simp at hs
  clear hm ho
  rw [put_25]
  have e : layV [] ((imm + 4294967296) / 1) (36866 + (rd * 128 + rs2 * 4)) = 36866 + (rd * 128 + rs2 * 4) := rfl
  rw [e]
  clear e
  clear hl hu hs hz
  try simp only [Int.reduceToNat, Int.reducePow]
  omega

set_option maxHeartbeats 4000000 in
theorem rp_26 (op rd rs1 rs2 imm : Int) (hf : fitsB (⟨[99, 46, 115, 119, 115, 112], 18, 0, 2, 3, 0, 252, 4, 0, [49, 49, 48, 102, 101, 100, 99, 104, 103, 84, 84, 84, 84, 84, 49, 48]⟩ : PR) op rd rs1 rs2 imm = true) : layV [9, 10, 11, 12, 7, 8] ((imm + 4294967296) / 4) (49154 + (rs2 * 4)) % 65536 = putV (rd % 4294967296) (rs1 % 4294967296) (rs2 % 4294967296) (imm % 4294967296) [49, 49, 48, 102, 101, 100, 99, 104, 103, 84, 84, 84, 84, 84, 49, 48] 0 := by
  simp only [fitsB, Bool.and_eq_true] at hf
  obtain ⟨ho, hm, k1, k2, k3, hz, hl, hu, hs⟩ := hf
  obtain ⟨⟨m1, m2⟩, ⟨m3, m4⟩, m5, m6⟩ := may_regs' op rd rs1 rs2 imm hm
  have ho2 : op = 18 := by simpa using ho
  subst ho2
  try simp [kindB] at k1
  try simp [kindB] at k2
  try simp [kindB] at k3
  try simp at hz
  try simp at hl
  try simp at hu
  try simp at hs
  clear hm ho
  rw [put_26]
  have e : layV [9, 10, 11, 12, 7, 8] ((imm + 4294967296) / 4) (49154 + (rs2 * 4)) = 49154 + (rs2 * 4) + (imm + 4294967296) / 4 % 2 * 2 ^ (9 : Int).toNat + (imm + 4294967296) / 4 / 2 % 2 * 2 ^ (10 : Int).toNat + (imm + 4294967296) / 4 / 2 / 2 % 2 * 2 ^ (11 : Int).toNat + (imm + 4294967296) / 4 / 2 / 2 / 2 % 2 * 2 ^ (12 : Int).toNat + (imm + 4294967296) / 4 / 2 / 2 / 2 / 2 % 2 * 2 ^ (7 : Int).toNat + (imm + 4294967296) / 4 / 2 / 2 / 2 / 2 / 2 % 2 * 2 ^ (8 : Int).toNat := rfl
  rw [e]
  clear e
  have f0 : (imm + 4294967296) / 4 % 2 = imm / 4 % 2 := by clear m1 m2 m3 m4 m5 m6 k1 k2 k3 hz; omega
  have f1 : (imm + 4294967296) / 4 / 2 % 2 = imm / 8 % 2 := by clear m1 m2 m3 m4 m5 m6 k1 k2 k3 hz f0; omega
  have f2 : (imm + 4294967296) / 4 / 2 / 2 % 2 = imm / 16 % 2 := by clear m1 m2 m3 m4 m5 m6 k1 k2 k3 hz f0 f1; omega
  have f3 : (imm + 4294967296) / 4 / 2 / 2 / 2 % 2 = imm / 32 % 2 := by clear m1 m2 m3 m4 m5 m6 k1 k2 k3 hz f0 f1 f2; omega
  have f4 : (imm + 4294967296) / 4 / 2 / 2 / 2 / 2 % 2 = imm / 64 % 2 := by clear m1 m2 m3 m4 m5 m6 k1 k2 k3 hz f0 f1 f2 f3; omega
  have f5 : (imm + 4294967296) / 4 / 2 / 2 / 2 / 2 / 2 % 2 = imm / 128 % 2 := by clear m1 m2 m3 m4 m5 m6 k1 k2 k3 hz f0 f1 f2 f3 f4; omega
  rw [f5, f4, f3, f2, f1, f0]
  clear f0 f1 f2 f3 f4 f5
  have d0 := bit2 imm 4
  have d1 := bit2 imm 8
  have d2 := bit2 imm 16
  have d3 := bit2 imm 32
  have d4 := bit2 imm 64
  have d5 := bit2 imm 128
  generalize imm / 4 % 2 = i0 at *
  generalize imm / 8 % 2 = i1 at *
  generalize imm / 16 % 2 = i2 at *
  generalize imm / 32 % 2 = i3 at *
  generalize imm / 64 % 2 = i4 at *
  generalize imm / 128 % 2 = i5 at *
  clear hl hu hs hz
  try simp only [Int.reduceToNat, Int.reducePow]
  omega

end Go.Proofs.Ytppnmaklggkogaa

