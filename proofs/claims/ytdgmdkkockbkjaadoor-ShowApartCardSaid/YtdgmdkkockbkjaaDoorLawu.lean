/- Package typecaselaw23: awake; the walk of ShowTexts. -/
import Derived.Test.YtdgmdkkockbkjaaDoorShwi
import Derived.Test.YtdgmdkkockbkjaaDoorLaids
namespace Go.Proofs.YtdgmdkkockbkjaaDoor
open Go.RowKit
set_option linter.unusedVariables false
set_option linter.unusedSimpArgs false

theorem shText_v (op rd rs1 rs2 imm : Int) (s t : List UInt8) (h : textP ⟨op, rd, rs1, rs2, imm⟩ s = t) (w : World) (h0 : -2147483648 ≤ imm) (h1 : imm ≤ 2147483647) (hP : NamesAt w ∧ Tab w) :
    Calls Tryd.prog 7 #[.agg #[.int .i64 op, .int .i64 rd, .int .i64 rs1, .int .i64 rs2, .int .i32 imm], .string (B s)] w fun e w' => e = .returned (.string (B t)) ∧ Nx w w' := by
  subst h
  exact shText_any ⟨op, rd, rs1, rs2, imm⟩ s w h0 h1 hP.1 hP.2

theorem rText_v (op rd rs1 rs2 imm : Int) (s t : List UInt8) (h : textP ⟨op, rd, rs1, rs2, imm⟩ s = t) (w : World) (h0 : -2147483648 ≤ imm) (h1 : imm ≤ 2147483647) :
    Calls Tryd.prog 8 #[.agg #[.int .i64 op, .int .i64 rd, .int .i64 rs1, .int .i64 rs2, .int .i32 imm], .string (B s)] w fun e w' => e = .returned (.string (B t)) ∧ Nx w w' := by
  subst h
  exact rText_any ⟨op, rd, rs1, rs2, imm⟩ s w h0 h1

theorem hP_nx {w w' : World} (h : NamesAt w ∧ Tab w) (hn : Nx w w') : NamesAt w' ∧ Tab w' := ⟨h.1.keep hn, h.2.nx hn⟩

theorem itoa_m3 : Lib.itoa (-3) = [45, 51] := by
  unfold Lib.itoa
  rw [if_pos (by decide)]
  show 45 :: Lib.decDigits 3 = _
  rw [Lib.decDigits_one (by decide)]
  rfl

theorem itoa_12 : Lib.itoa 12 = [49, 50] := by
  unfold Lib.itoa
  rw [if_neg (by decide)]
  show Lib.decDigits 12 = _
  rw [Lib.decDigits_two (by decide) (by decide)]
  rfl

theorem awu_1 : textP ⟨19, 10, 11, 0, -3⟩ [] = [97, 100, 100, 105, 32, 97, 48, 44, 32, 97, 49, 44, 32, 45, 51] := by
  unfold textP
  rw [if_pos (by decide +kernel)]
  show joinJ [97, 100, 100, 105] [[97, 48], [97, 49], Lib.itoa (-3)] = _
  rw [itoa_m3]
  rfl

theorem awu_2 : textP ⟨5, 0, 8, 0, 12⟩ [] = [98, 101, 113, 32, 115, 48, 44, 32, 122, 101, 114, 111, 44, 32, 46, 43, 49, 50] := by
  unfold textP
  rw [if_pos (by decide +kernel)]
  show joinJ [98, 101, 113] [[115, 48], [122, 101, 114, 111], [46] ++ (if (0 : Int) ≤ 12 then [43] ++ Lib.itoa 12 else Lib.itoa 12)] = _
  rw [itoa_12]
  rfl

theorem awu_3 : textP ⟨5, 0, 8, 0, 12⟩ [99, 46, 98, 101, 113, 122] = [99, 46, 98, 101, 113, 122, 32, 115, 48, 44, 32, 46, 43, 49, 50] := by
  unfold textP
  rw [if_pos (by decide +kernel)]
  show joinJ [99, 46, 98, 101, 113, 122] [[115, 48], [46] ++ (if (0 : Int) ≤ 12 then [43] ++ Lib.itoa 12 else Lib.itoa 12)] = _
  rw [itoa_12]
  rfl

theorem awu_4 : textP ⟨5, 0, 8, 0, 12⟩ [99, 46, 98, 110, 101, 122] = [] := by
  unfold textP
  rw [if_neg (by decide +kernel)]

set_option maxHeartbeats 2000000 in
theorem awakeu_any (w : World) (hP : NamesAt w ∧ Tab w) : Calls Tryd.prog 6 #[] w fun e w' => e = .returned (.bool true) ∧ Nx w w' := by
  have HP := Lib.hid hP
  clear hP
  have H0 := Lib.hid ((Nx.refl w).alloc (.cells #[.int .i64 5, .int .i64 0, .int .i64 8, .int .i64 0, .int .i32 12] 23))
  go_enter Tryd.func6, Tryd.ntmps6
  go_wp2_with fail
  refine (shText_v 19 10 11 0 (-3) [] _ awu_1 _ (by omega) (by omega) (hP_nx HP.out H0.out)).mono ?_
  rintro e w1 ⟨rfl, hn1⟩
  obtain ⟨c0, c1, c2, c3, c4, hz⟩ := five_in hn1
  have H1 := Lib.hid (H0.out.trans hn1)
  clear hn1
  go_wp2_with fail
  refine (shText_v 5 0 8 0 12 [] _ awu_2 _ (by omega) (by omega) (hP_nx HP.out H1.out)).mono ?_
  rintro e w2 ⟨rfl, hn2⟩
  replace c0 := hn2.cell c0
  replace c1 := hn2.cell c1
  replace c2 := hn2.cell c2
  replace c3 := hn2.cell c3
  replace c4 := hn2.cell c4
  replace hz := Nat.lt_of_lt_of_le hz hn2.size
  have H2 := Lib.hid (H1.out.trans hn2)
  clear hn2
  go_wp2_with fail
  refine (shText_v 5 0 8 0 12 [99, 46, 98, 101, 113, 122] _ awu_3 _ (by omega) (by omega) (hP_nx HP.out H2.out)).mono ?_
  rintro e w3 ⟨rfl, hn3⟩
  replace c0 := hn3.cell c0
  replace c1 := hn3.cell c1
  replace c2 := hn3.cell c2
  replace c3 := hn3.cell c3
  replace c4 := hn3.cell c4
  replace hz := Nat.lt_of_lt_of_le hz hn3.size
  have H3 := Lib.hid (H2.out.trans hn3)
  clear hn3
  go_wp2_with fail
  refine (shText_v 5 0 8 0 12 [99, 46, 98, 110, 101, 122] _ awu_4 _ (by omega) (by omega) (hP_nx HP.out H3.out)).mono ?_
  rintro e w4 ⟨rfl, hn4⟩
  have H4 := Lib.hid (H3.out.trans hn4)
  clear hn4
  go_wp2
  go_ret
  exact ⟨rfl, H4.out⟩

set_option maxHeartbeats 4000000 in
theorem ShowTexts_walk0 (op rd rs1 rs2 imm : Int) (s : List UInt8) (h0 : -2147483648 ≤ imm) (h1 : imm ≤ 2147483647) (hs : s.length ≤ maxLen) (w : World) (hP : NamesAt w ∧ Tab w) :
    Calls Tryd.prog 3 #[.agg #[.int .i64 op, .int .i64 rd, .int .i64 rs1, .int .i64 rs2, .int .i32 imm], .string (B s)] w fun e w' => e = .returned (.bool true) ∧ Nx w w' := by
  have HP := Lib.hid hP
  have H0 := Lib.hid ((Nx.refl w).alloc (.cells #[.int .i64 op, .int .i64 rd, .int .i64 rs1, .int .i64 rs2, .int .i32 imm] 23))
  unfold maxLen at hs
  clear hP
  go_enter Tryd.func3, Tryd.ntmps3
  go_wp2_with fail
  refine (awakeu_any _ (hP_nx HP.out H0.out)).mono ?_
  rintro e w1 ⟨rfl, hn1⟩
  obtain ⟨c0, c1, c2, c3, c4, hz⟩ := five_in hn1
  have H1 := Lib.hid (H0.out.trans hn1)
  clear hn1
  by_cases hl : 50 < s.length
  · have d1 : decide ((50 : Int) < s.length) = true := decide_eq_true (by omega)
    go_wp2
    go_ret
    exact ⟨rfl, H1.out⟩
  · have d1 : decide ((50 : Int) < s.length) = false := decide_eq_false (by omega)
    have CT := Lib.hid (fun w' (h : Nx w1 w') => shText_v op rd rs1 rs2 imm s _ rfl w' h0 h1 (hP_nx HP.out (H1.out.trans h)))
    have CT0 := Lib.hid (fun w' (h : Nx w1 w') => shText_v op rd rs1 rs2 imm [] _ rfl w' h0 h1 (hP_nx HP.out (H1.out.trans h)))
    have CR := Lib.hid (fun w' => rText_v op rd rs1 rs2 imm s _ rfl w' h0 h1)
    have CR0 := Lib.hid (fun w' => rText_v op rd rs1 rs2 imm [] _ rfl w' h0 h1)
    generalize textP ⟨op, rd, rs1, rs2, imm⟩ s = t at *
    generalize textP ⟨op, rd, rs1, rs2, imm⟩ [] = t0 at *
    go_wp2
    (refine wp_region_nx 14 (by kernel_rfl) (by kernel_rfl) ?_; simp only [List.take_succ_cons, List.take_zero, List.drop_succ_cons, List.drop_zero]; (repeat (refine wpQuiet_step (fun K hK => ?_); go_simp; first | (refine hK _ ?_; clear hK K) | (apply Exists.intro; refine ⟨fun w' hw' => ?_, hK _ ?_⟩; (first | (with_reducible rfl) | (go_at_call 7; with_reducible exact (CT.out _ hw').mono fun _ _ h => ⟨h.1, hw'.trans h.2⟩) | (go_at_call 7; with_reducible exact (CT0.out _ hw').mono fun _ _ h => ⟨h.1, hw'.trans h.2⟩) | (go_at_call 8; with_reducible exact (CR.out _).mono fun _ _ h => ⟨h.1, hw'.trans h.2⟩) | (go_at_call 8; with_reducible exact (CR0.out _).mono fun _ _ h => ⟨h.1, hw'.trans h.2⟩) | (obtain ⟨hc, hf⟩ := nx_cells hw'; go_simp; with_reducible rfl) | (obtain ⟨hc, hf⟩ := nx_cells hw'; go_simp; rfl)); clear hK K))); refine wpQuiet_nil ?_; intro w9 hn9)
    have H9 := Lib.hid (H1.out.trans hn9)
    clear hn9
    go_wp2
    go_ret
    exact ⟨rfl, H9.out⟩

theorem ShowTexts_walk (op rd rs1 rs2 imm : Int) (a : ByteArray) (h0 : -2147483648 ≤ imm) (h1 : imm ≤ 2147483647) (ha : a.size ≤ maxLen) (w : World) (hP : NamesAt w ∧ Tab w) :
    Calls Tryd.prog 3 #[.agg #[.int .i64 op, .int .i64 rd, .int .i64 rs1, .int .i64 rs2, .int .i32 imm], .string a] w fun e w' => e = .returned (.bool true) ∧ Nx w w' := by
  obtain ⟨⟨l⟩⟩ := a
  exact ShowTexts_walk0 op rd rs1 rs2 imm l h0 h1 ha w hP

end Go.Proofs.YtdgmdkkockbkjaaDoor
