/- The walks of the laws of package typecaselaw03. -/
import Derived.Test.YtcdjabfhmhibjaaDoorNan
import Derived.Deep.RegionWith
namespace Go.Proofs.YtcdjabfhmhibjaaDoor
open Go.RowKit
set_option linter.unusedVariables false
set_option linter.unusedSimpArgs false

theorem awc1 : regP [102, 112] = some 8 := by decide +kernel

theorem awc2 : regNP 8 = [115, 48] := by decide

theorem awc3 : opP [114, 101, 109, 117] = 48 := by decide +kernel

theorem awc4 : nameP 1 = [108, 117, 105] := by decide

theorem awc5 : mayB 19 0 0 0 2047 = true := by decide

theorem awc6 : mayB 19 0 0 0 2048 = false := by decide

set_option maxHeartbeats 1000000 in
theorem awakec_any (w : World) (hN : NamesAt w) : Calls Tryd.prog 6 #[] w fun e w' => e = .returned (.bool true) ∧ Nx w w' := by
  have HN := Lib.hid hN
  clear hN
  have C1 := Lib.hid (reg_any [102, 112] w HN.out)
  have C1 := Lib.hid (show Calls Tryd.prog 14 #[.string (B [102, 112])] w (fun e w' => e = .returned (.tuple #[.int .i64 8, .bool true]) ∧ w = w') from by have := C1.out; unfold RetReg at this; rw [awc1] at this; exact this)
  have C2 := Lib.hid (fun w' (hw : Nx w w') => (show Calls Tryd.prog 16 #[.int .i64 8] w' (fun e w2 => e = .returned (.string (B [115, 48])) ∧ w' = w2) from by have := regName_any 8 w' (HN.out.keep hw); rw [awc2] at this; exact this))
  have C3 := Lib.hid (fun w' (hw : Nx w w') => (show Calls Tryd.prog 13 #[.string (B [114, 101, 109, 117])] w' (fun e w2 => e = .returned (.int .i64 48) ∧ w' = w2) from by have := op_any [114, 101, 109, 117] w' (HN.out.keep hw); rw [awc3] at this; exact this))
  have C4 := Lib.hid (fun w' (hw : Nx w w') => (show Calls Tryd.prog 12 #[.int .i64 1] w' (fun e w2 => e = .returned (.string (B [108, 117, 105])) ∧ w' = w2) from by have := name_any 1 w' (HN.out.keep hw); rw [awc4] at this; exact this))
  have C5 := Lib.hid (fun w' => (show Calls Tryd.prog 8 #[.agg #[.int .i64 19, .int .i64 0, .int .i64 0, .int .i64 0, .int .i32 2047]] w' (fun e w2 => e = .returned (.bool true) ∧ Nx w' w2) from by have := may_any 19 0 0 0 2047 w' (by decide) (by decide); rw [awc5] at this; exact this))
  have C6 := Lib.hid (fun w' => (show Calls Tryd.prog 8 #[.agg #[.int .i64 19, .int .i64 0, .int .i64 0, .int .i64 0, .int .i32 2048]] w' (fun e w2 => e = .returned (.bool false) ∧ Nx w' w2) from by have := may_any 19 0 0 0 2048 w' (by decide) (by decide); rw [awc6] at this; exact this))
  go_enter Tryd.func6, Tryd.ntmps6
  go_wp2_with fail
  refine C1.out.mono ?_
  rintro e w1 ⟨rfl, rfl⟩
  go_wp2_with fail
  refine (C2.out _ (Nx.refl w)).mono ?_
  rintro e w1 ⟨rfl, rfl⟩
  go_wp2_with fail
  refine (C3.out _ (Nx.refl w)).mono ?_
  rintro e w1 ⟨rfl, rfl⟩
  go_wp2_with fail
  refine (C4.out _ (Nx.refl w)).mono ?_
  rintro e w1 ⟨rfl, rfl⟩
  go_wp2_with fail
  refine (C5.out _).mono ?_
  rintro e w1 ⟨rfl, hn1⟩
  go_wp2_with fail
  refine (C6.out _).mono ?_
  rintro e w2 ⟨rfl, hn2⟩
  have HB := Lib.hid (hn1.trans hn2)
  clear hn1 hn2
  go_wp2
  go_ret
  exact ⟨rfl, HB.out⟩

/-- Names, as one cell of it is wanted. -/
def RetAt (k : Nat) (s : List UInt8) (w : World) (e : Ending) (w' : World) : Prop :=
  ∃ g, e = .returned (.slice (some ⟨g, 0, none⟩) 49 49) ∧ w'.cell? ⟨g, k, none⟩ = some (.string (B s)) ∧ Nx w w'

theorem names_at (k : Nat) (s : List UInt8) (h : nmB[k]? = some s) (w : World) : Calls Tryd.prog 7 #[] w (RetAt k s w) :=
  (names_any w).mono fun e w' ⟨he, hs, hn⟩ => ⟨_, he, hs k s h, hn⟩

theorem nmB_full : ((List.range 49).all fun k => k == 0 || !(nmB.getD k []).isEmpty) = true := by decide +kernel

theorem nmB_some (k : Nat) (h1 : 1 ≤ k) (h2 : k ≤ 48) : ¬ nmB.getD k [] = [] := by
  have := List.all_eq_true.1 nmB_full k (List.mem_range.2 (by omega))
  rw [Bool.or_eq_true] at this
  rcases this with h | h
  · simp at h; omega
  · intro e; rw [e] at h; cases h

set_option maxHeartbeats 2000000 in
set_option maxRecDepth 100000 in
theorem InsMay_walk (op rd rs1 rs2 imm : Int) (hv : -2147483648 ≤ imm) (hv' : imm ≤ 2147483647) (w : World) (hN : NamesAt w) :
    Calls Tryd.prog 3 #[.agg #[.int .i64 op, .int .i64 rd, .int .i64 rs1, .int .i64 rs2, .int .i32 imm]] w fun e w' => e = .returned (.bool true) ∧ Nx w w' := by
  have HN := Lib.hid hN
  clear hN
  by_cases hin : 1 ≤ op ∧ op ≤ 48
  · obtain ⟨k, rfl⟩ : ∃ k : Nat, op = k := ⟨op.toNat, by omega⟩
    have hk1 : 1 ≤ k := by omega
    have hk2 : k ≤ 48 := by omega
    have d1 : decide ((1 : Int) ≤ k) = true := decide_eq_true (by omega)
    have d2 : decide ((k : Int) ≤ 48) = true := decide_eq_true (by omega)
    have hkI : (k : Int) < 49 := by omega
    have CN := Lib.hid (fun w' (hw : Nx w w') => (show Calls Tryd.prog 12 #[.int .i64 k] w' (fun e w2 => e = .returned (.string (B (nmB.getD k []))) ∧ w' = w2) from by have := name_any k w' (HN.out.keep hw); rw [show nameP k = nmB.getD k [] from if_neg (by omega)] at this; exact this))
    have CO := Lib.hid (fun w' (hw : Nx w w') => (show Calls Tryd.prog 13 #[.string (B (nmB.getD k []))] w' (fun e w2 => e = .returned (.int .i64 k) ∧ w' = w2) from by have := op_any (nmB.getD k []) w' (HN.out.keep hw); rw [op_found _ k hk1 hk2 rfl] at this; exact this))
    have bz : (nmB.getD k [] == []) = false := beq_eq_false_iff_ne.2 (nmB_some k hk1 hk2)
    have bz2 : (nmB.getD k []).isEmpty = false := by have := nmB_some k hk1 hk2; cases h : nmB.getD k [] with | nil => exact absurd h this | cons a b => rfl
    have HNM := Lib.hid (nmB_at k (by omega))
    go_enter Tryd.func3, Tryd.ntmps3
    go_wp2_with fail
    refine (awakec_any _ (HN.out.keep ((Nx.refl w).alloc _))).mono ?_
    rintro e w1 ⟨rfl, hn1⟩
    obtain ⟨c0, c1, c2, c3, c4, hz⟩ := five_in hn1
    have H1 := Lib.hid (((Nx.refl w).alloc _).trans hn1)
    clear hn1
    have CF := Lib.hid (fun w' => formOf_any k w')
    have CFr := Lib.hid (fun w' => form_any k w')
    have CM := Lib.hid (fun w' => may_any k rd rs1 rs2 imm w' hv hv')
    have CMr := Lib.hid (fun w' => rmay_any k rd rs1 rs2 imm w' hv hv')
    generalize mayB k rd rs1 rs2 imm = m at *
    generalize formN k = f at *
    generalize nmB.getD k [] = nm at *
    have bm : (m == m) = true := by simp
    have bf : (f == f) = true := by simp
    have bn : (nm == nm) = true := by simp
    go_wp2
    go_region_with (go_at_call 7; refine (names_at k nm HNM.out _).mono ?_; rintro e w2 ⟨g, rfl, hg, hn2⟩; have hn3 : Nx w1 w2 := Nx.trans ((Nx.refl _).drew) hn2; have d0 := hn3.cell c0)
    all_goals
      have d1 := hn3.cell c1
      have d2 := hn3.cell c2
      have d3 := hn3.cell c3
      have d4 := hn3.cell c4
      have hz3 : w.heap.size < w2.heap.size := Nat.lt_of_lt_of_le hz hn3.size
      have H3 := Lib.hid (H1.out.trans hn3)
      clear hn3 hn2 hg c0 c1 c2 c3 c4
      go_wp2
      (refine wp_region_nx 32 (by kernel_rfl) (by kernel_rfl) ?_; simp only [List.take_succ_cons, List.take_zero, List.drop_succ_cons, List.drop_zero]; (repeat (refine wpQuiet_step (fun K hK => ?_); go_simp; first | (refine hK _ ?_; clear hK K) | (apply Exists.intro; refine ⟨fun w' hw' => ?_, hK _ ?_⟩; (first | (with_reducible rfl) | (go_at_call 8; with_reducible exact (CM.out _).mono fun _ _ h => ⟨h.1, hw'.trans h.2⟩) | (go_at_call 9; with_reducible exact (CMr.out _).mono fun _ _ h => ⟨h.1, hw'.trans h.2⟩) | (go_at_call 10; with_reducible exact (CF.out _).mono fun _ _ h => ⟨h.1, hw'.trans (Nx.of_eq h.2)⟩) | (go_at_call 11; with_reducible exact (CFr.out _).mono fun _ _ h => ⟨h.1, hw'.trans h.2⟩) | (go_at_call 12; with_reducible exact (CN.out _ (H3.out.trans hw')).mono fun _ _ h => ⟨h.1, hw'.trans (Nx.of_eq h.2)⟩) | (go_at_call 13; with_reducible exact (CO.out _ (H3.out.trans hw')).mono fun _ _ h => ⟨h.1, hw'.trans (Nx.of_eq h.2)⟩) | (obtain ⟨hc, hf⟩ := nx_cells hw'; go_simp; with_reducible rfl) | (obtain ⟨hc, hf⟩ := nx_cells hw'; go_simp; rfl)); clear hK K))); refine wpQuiet_nil ?_; intro w9 hn9)
      have H9 := Lib.hid (H3.out.trans hn9)
      clear hn9
      go_wp2
      go_ret
      exact ⟨rfl, H9.out⟩
  · have CN := Lib.hid (fun w' (hw : Nx w w') => (show Calls Tryd.prog 12 #[.int .i64 op] w' (fun e w2 => e = .returned (.string (B [])) ∧ w' = w2) from by
      have := name_any op w' (HN.out.keep hw)
      rw [show nameP op = [] by unfold nameP; split; rfl; rw [show op.toNat = 0 by omega]; rfl] at this; exact this))
    have CO := Lib.hid (fun w' (hw : Nx w w') => op_any [] w' (HN.out.keep hw))
    have CF := Lib.hid (fun w' => formOf_any op w')
    have CFr := Lib.hid (fun w' => form_any op w')
    have CM := Lib.hid (fun w' => may_any op rd rs1 rs2 imm w' hv hv')
    have CMr := Lib.hid (fun w' => rmay_any op rd rs1 rs2 imm w' hv hv')
    generalize mayB op rd rs1 rs2 imm = m at *
    generalize formN op = f at *
    have bm : (m == m) = true := by simp
    have bf : (f == f) = true := by simp
    have two : (decide (1 ≤ op) = false) ∨ (decide (1 ≤ op) = true ∧ decide (op ≤ 48) = false) := by
      by_cases h : 1 ≤ op
      · exact Or.inr ⟨decide_eq_true h, decide_eq_false (by omega)⟩
      · exact Or.inl (decide_eq_false h)
    clear hin
    rcases two with d1 | ⟨d1, d2⟩
    all_goals
      go_enter Tryd.func3, Tryd.ntmps3
      go_wp2_with fail
      refine (awakec_any _ (HN.out.keep ((Nx.refl w).alloc _))).mono ?_
      rintro e w1 ⟨rfl, hn1⟩
      obtain ⟨c0, c1, c2, c3, c4, hz⟩ := five_in hn1
      have H1 := Lib.hid (((Nx.refl w).alloc _).trans hn1)
      clear hn1
      go_wp2
      (refine wp_region_nx 32 (by kernel_rfl) (by kernel_rfl) ?_; simp only [List.take_succ_cons, List.take_zero, List.drop_succ_cons, List.drop_zero]; (repeat (refine wpQuiet_step (fun K hK => ?_); go_simp; first | (refine hK _ ?_; clear hK K) | (apply Exists.intro; refine ⟨fun w' hw' => ?_, hK _ ?_⟩; (first | (with_reducible rfl) | (go_at_call 8; with_reducible exact (CM.out _).mono fun _ _ h => ⟨h.1, hw'.trans h.2⟩) | (go_at_call 9; with_reducible exact (CMr.out _).mono fun _ _ h => ⟨h.1, hw'.trans h.2⟩) | (go_at_call 10; with_reducible exact (CF.out _).mono fun _ _ h => ⟨h.1, hw'.trans (Nx.of_eq h.2)⟩) | (go_at_call 11; with_reducible exact (CFr.out _).mono fun _ _ h => ⟨h.1, hw'.trans h.2⟩) | (go_at_call 12; with_reducible exact (CN.out _ (H1.out.trans hw')).mono fun _ _ h => ⟨h.1, hw'.trans (Nx.of_eq h.2)⟩) | (go_at_call 13; with_reducible exact (CO.out _ (H1.out.trans hw')).mono fun _ _ h => ⟨h.1, hw'.trans (Nx.of_eq h.2)⟩) | (obtain ⟨hc, hf⟩ := nx_cells hw'; go_simp; with_reducible rfl) | (obtain ⟨hc, hf⟩ := nx_cells hw'; go_simp; rfl)); clear hK K))); refine wpQuiet_nil ?_; intro w9 hn9)
      have H9 := Lib.hid (H1.out.trans hn9)
      clear hn9
      go_wp2
      go_ret
      exact ⟨rfl, H9.out⟩

end Go.Proofs.YtcdjabfhmhibjaaDoor
