/- Contract of typecaseref23.Text. -/
import Derived.Test.YtdgmdkkockbkjaaDoorShwg
import Derived.Test.YtdgmdkkockbkjaaDoorShwh
import Derived.Test.YtdgmdkkockbkjaaDoorRefif
import Derived.RegionTactic
import Derived.Deep.RegionHeld3
namespace Go.Proofs.YtdgmdkkockbkjaaDoor
open Go.RowKit
set_option linter.unusedVariables false
set_option linter.unusedSimpArgs false

theorem jal_two : ((List.range 49).all fun k => (letF (formN k)).length == 2 || (!(nmB.getD k [] == [106, 97, 108]) && !(nmB.getD k [] == [106, 97, 108, 114]))) = true := by decide +kernel

theorem jal_at (k : Nat) (hk : k < 49) (h : ¬ (letF (formN k)).length = 2) : (nmB.getD k [] == [106, 97, 108]) = false ∧ (nmB.getD k [] == [106, 97, 108, 114]) = false := by
  have := List.all_eq_true.1 jal_two k (List.mem_range.2 hk)
  rw [Bool.or_eq_true] at this
  rcases this with h1 | h1
  · exact absurd (beq_iff_eq.1 h1) h
  · rw [Bool.and_eq_true] at h1
    exact ⟨by simpa using h1.1, by simpa using h1.2⟩

theorem q_ne : ((List.range 49).all fun k => !(([63] : List UInt8) == letF (formN k))) = true := by decide +kernel

theorem q_at (k : Nat) (hk : k < 49) : ¬ ([63] : List UInt8) = letF (formN k) := by
  have := List.all_eq_true.1 q_ne k (List.mem_range.2 hk)
  intro h
  rw [h] at this
  simp at this

set_option maxRecDepth 100000 in
set_option maxHeartbeats 8000000 in
theorem rText_no (i : In5) (s : List UInt8) (w : World) (h0 : -2147483648 ≤ i.imm) (h1 : i.imm ≤ 2147483647) (hm : mayB i.op i.rd i.rs1 i.rs2 i.imm = false) :
    Calls Tryd.prog 8 #[.agg #[.int .i64 i.op, .int .i64 i.rd, .int .i64 i.rs1, .int .i64 i.rs2, .int .i32 i.imm], .string (B s)] w fun e w' => e = .returned (.string (B (textP i s))) ∧ Nx w w' := by
  have HV := Lib.hid (show textP i s = [] by unfold textP okT; rw [hm]; rfl)
  obtain ⟨op, rd, rs1, rs2, imm⟩ := i
  dsimp only at *
  go_enter Tryd.func8, Tryd.ntmps8
  go_wp2_with fail
  refine (rmay_any op rd rs1 rs2 imm _ h0 h1).mono ?_
  rintro e w2 ⟨rfl, hn2⟩
  rw [hm]
  obtain ⟨c0, c1, c2, c3, c4, hz⟩ := five_in hn2
  have H2 := Lib.hid (((Nx.refl w).alloc _).trans hn2)
  clear hn2
  go_wp2
  go_ret
  refine ⟨?_, H2.out⟩
  rw [HV.out]
  rfl

set_option maxRecDepth 100000 in
set_option maxHeartbeats 8000000 in
theorem rText_unfit (i : In5) (s : List UInt8) (w : World) (h0 : -2147483648 ≤ i.imm) (h1 : i.imm ≤ 2147483647) (hm : mayB i.op i.rd i.rs1 i.rs2 i.imm = true) (hs : s ≠ []) (hf : fitS (B s) i.op i.rd i.rs1 i.rs2 i.imm = false) :
    Calls Tryd.prog 8 #[.agg #[.int .i64 i.op, .int .i64 i.rd, .int .i64 i.rs1, .int .i64 i.rs2, .int .i32 i.imm], .string (B s)] w fun e w' => e = .returned (.string (B (textP i s))) ∧ Nx w w' := by
  have HV := Lib.hid (show textP i s = [] by unfold textP okT; rw [hm, hf]; simp [hs])
  obtain ⟨op, rd, rs1, rs2, imm⟩ := i
  dsimp only at *
  have hne : (s == []) = false := by rw [beq_eq_false_iff_ne]; exact hs
  clear hs
  go_enter Tryd.func8, Tryd.ntmps8
  go_wp2_with fail
  refine (rmay_any op rd rs1 rs2 imm _ h0 h1).mono ?_
  rintro e w2 ⟨rfl, hn2⟩
  rw [hm]
  obtain ⟨c0, c1, c2, c3, c4, hz⟩ := five_in hn2
  have H2 := Lib.hid (((Nx.refl w).alloc _).trans hn2)
  clear hn2
  go_wp2_with fail
  refine (rFits_any (B s) op rd rs1 rs2 imm _ h0 h1).mono ?_
  rintro e w3 ⟨rfl, hn3⟩
  rw [← fitS_ref, hf]
  have H3 := Lib.hid (H2.out.trans hn3)
  replace c0 := hn3.cell c0
  replace c1 := hn3.cell c1
  replace c2 := hn3.cell c2
  replace c3 := hn3.cell c3
  replace c4 := hn3.cell c4
  replace hz := Nat.lt_of_lt_of_le hz hn3.size
  clear hn3
  go_wp2
  go_ret
  refine ⟨?_, H3.out⟩
  rw [HV.out]
  rfl

set_option maxRecDepth 100000 in
set_option maxHeartbeats 8000000 in
theorem rText_plain (i : In5) (s : List UInt8) (w : World) (h0 : -2147483648 ≤ i.imm) (h1 : i.imm ≤ 2147483647) (hm : mayB i.op i.rd i.rs1 i.rs2 i.imm = true) (hs : s = []) :
    Calls Tryd.prog 8 #[.agg #[.int .i64 i.op, .int .i64 i.rd, .int .i64 i.rs1, .int .i64 i.rs2, .int .i32 i.imm], .string (B s)] w fun e w' => e = .returned (.string (B (textP i s))) ∧ Nx w w' := by
  subst hs
  have HV := Lib.hid (show textP i [] = joinJ (nameP i.op) ((letF (formN i.op)).map fun c => opnd c i) by unfold textP okT; rw [hm]; rfl)
  have HL := Lib.hid (And.intro (lsT_len i []) (lsT_C i []))
  have HNM := Lib.hid (nmT_opC i [] (by unfold okT; rw [hm]; rfl)).2
  have el : lsT i [] = letF (formN i.op) := rfl
  have en : nmT i [] = nameP i.op := rfl
  rw [el] at HL
  rw [en] at HNM
  clear el en
  obtain ⟨op, rd, rs1, rs2, imm⟩ := i
  dsimp only at *
  obtain ⟨kop, rfl, hk49, hnm⟩ := may_nm op rd rs1 rs2 imm hm
  have hk1 : 1 ≤ kop := by have := (may_op ⟨kop, rd, rs1, rs2, imm⟩ hm).1; dsimp only at this; omega
  have ek : nameP (kop : Int) = nmB.getD kop [] := by unfold nameP; rw [if_neg (by omega)]; rfl
  rw [ek] at HV HNM
  obtain ⟨nm, hnm2⟩ : ∃ nm, nmB.getD kop [] = nm := ⟨_, rfl⟩
  have HS := Lib.hid (show nmB[kop]? = some nm by rw [← hnm2]; exact hnm)
  rw [hnm2] at HV HNM
  obtain ⟨L, hL⟩ : ∃ L, letF (formN kop) = L := ⟨_, rfl⟩
  have CLQ := Lib.hid (fun n hg w => letters17_op kop nm hk1 (by omega) hnm2 n hg w)
  rw [hL] at HL HV CLQ
  have HLQ := Lib.hid (fun w => CLQ.out 2 (fun h => by omega) w)
  have HQ := Lib.hid (show ¬ ([63] : List UInt8) = L by
    rw [← hL]
    exact q_at kop hk49)
  have HST := Lib.hid (show lqP L 2 = L ∨ (lqP L 2 = [63] ∧ ∀ (n : Nat) (w : World), n ≤ 3 → Calls Tryd.prog 20 #[.string (B nm), .int .i64 n] w (RetLq L n w)) by
    by_cases h2 : L.length = 2
    · exact Or.inl (by unfold lqP; rw [if_pos h2])
    · refine Or.inr ⟨by unfold lqP; rw [if_neg h2], fun n w _ => CLQ.out n (fun _ => ?_) w⟩
      have := jal_at kop hk49 (by rw [hL]; exact h2)
      rw [hnm2] at this
      exact this)
  clear CLQ hL hnm2 hnm ek
  go_enter Tryd.func8, Tryd.ntmps8
  go_wp2_with fail
  refine (rmay_any kop rd rs1 rs2 imm _ h0 h1).mono ?_
  rintro e w2 ⟨rfl, hn2⟩
  rw [hm]
  obtain ⟨c0, c1, c2, c3, c4, hz⟩ := five_in hn2
  have H2 := Lib.hid (((Nx.refl w).alloc _).trans hn2)
  clear hn2
  go_wp2
  go_region_with (go_at_call 10; refine (names_nm kop nm HS.out _).mono ?_; rintro e w4 ⟨g, rfl, hg, hn4⟩; have hn5 : Nx w2 w4 := Nx.trans ((Nx.refl _).drew) hn4; have d0 := hn5.cell c0)
  all_goals
    have d1 := hn5.cell c1
    have d2 := hn5.cell c2
    have d3 := hn5.cell c3
    have d4 := hn5.cell c4
    have hz5 : w.heap.size < w4.heap.size := Nat.lt_of_lt_of_le hz hn5.size
    have H5 := Lib.hid (H2.out.trans hn5)
    clear hn4 hn5 hg c0 c1 c2 c3 c4
    go_wp2_with fail
    refine (HLQ.out w4).mono ?_
    rintro e w6 ⟨rfl, hn6⟩
    have e0 := hn6.cell d0
    have e1 := hn6.cell d1
    have e2 := hn6.cell d2
    have e3 := hn6.cell d3
    have e4 := hn6.cell d4
    have hz6 := Nat.lt_of_lt_of_le hz5 hn6.size
    have H6 := Lib.hid (H5.out.trans hn6)
    clear hn6 d0 d1 d2 d3 d4
    obtain ⟨x0, hx0⟩ : ∃ x, lqP L 2 = x := ⟨_, rfl⟩
    rw [hx0]
    have HX0 := Lib.hid (show x0 = L ∨ (x0 = [63] ∧ ∀ (n : Nat) (w : World), n ≤ 3 → Calls Tryd.prog 20 #[.string (B nm), .int .i64 n] w (RetLq L n w)) from hx0 ▸ HST.out)
    clear hx0
    go_wp2
    go_loopw [7, 9] (fun v i wr => ∃ (k : Nat) (x : List UInt8), k ≤ 4 ∧ i = .int .i64 k ∧ v = .string (B x) ∧ Hid (x = L ∨ (x = [63] ∧ k ≤ L.length ∧ ∀ (n : Nat) (w : World), n ≤ 3 → Calls Tryd.prog 20 #[.string (B nm), .int .i64 n] w (RetLq L n w))) ∧ Nx w6 wr) (fun _ i _ => 4 - (intOf i).toNat)
    case atStart => exact ⟨0, x0, by omega, rfl, rfl, Lib.hid (HX0.out.imp id fun h => ⟨h.1, Nat.zero_le _, h.2⟩), Nx.refl _⟩
    case round =>
      obtain ⟨k, x, hk, rfl, rfl, HX, hn⟩ := hrel
      have HNr := Lib.hid hn
      by_cases hx : x = [63]
      · subst hx
        have hl : k ≤ L.length ∧ ∀ (n : Nat) (w : World), n ≤ 3 → Calls Tryd.prog 20 #[.string (B nm), .int .i64 n] w (RetLq L n w) := by
          rcases HX.out with h | h
          · exact absurd h HQ.out
          · exact h.2
        have hk3 : k ≤ 3 := by have := HL.out.1; have := hl.1; omega
        have HC := Lib.hid hl.2
        have hkl := hl.1
        have dk : decide ((k : Int) < 4) = true := decide_eq_true (by omega)
        clear hl
        go_wp2_with fail
        refine (HC.out k wr hk3).mono ?_
        rintro e w7 ⟨rfl, hn7⟩
        have HN7 := Lib.hid (hn.trans hn7)
        by_cases hlk : L.length = k
        · have hv : lqP L k = L := by unfold lqP; rw [if_pos hlk]
          rw [hv]
          clear hn hn7
          go_wp2
          go_roundw
          case rel => exact ⟨k + 1, L, by omega, by go_num, rfl, Lib.hid (Or.inl rfl), HN7.out⟩
          case measure => simp [intOf]; omega
        · have hv : lqP L k = [63] := by unfold lqP; rw [if_neg hlk]
          rw [hv]
          clear hn hn7
          go_wp2
          go_roundw
          case rel => exact ⟨k + 1, [63], by omega, by go_num, rfl, Lib.hid (Or.inr ⟨rfl, by omega, HC.out⟩), HN7.out⟩
          case measure => simp [intOf]; omega
      · obtain rfl : x = L := by
          rcases HX.out with h | h
          · exact h
          · exact absurd h.1 hx
        have bx : (x == [63]) = false := by rw [beq_eq_false_iff_ne]; exact hx
        have f0 := hn.cell e0
        have f1 := hn.cell e1
        have f2 := hn.cell e2
        have f3 := hn.cell e3
        have f4 := hn.cell e4
        have hzr := Nat.lt_of_lt_of_le hz6 hn.size
        have HW := Lib.hid (H6.out.trans hn)
        clear hn HX HX0 HNr e0 e1 e2 e3 e4 hk
        obtain ⟨wq, hwq⟩ : ∃ wq, wr = wq := ⟨_, rfl⟩
        subst hwq
        go_wp2
        rename World => wA
        go_loopw [5, 10] (fun v i wr2 => ∃ k2 : Nat, k2 ≤ x.length ∧ i = .int .i64 k2 ∧ v = .string (B (joinJ nm ((x.map fun c => opnd c ⟨kop, rd, rs1, rs2, imm⟩).take k2))) ∧ Nx wA wr2) (fun _ i _ => x.length - (intOf i).toNat)
        case atStart => exact ⟨0, Nat.zero_le _, rfl, by rw [List.take_zero]; rfl, Nx.refl _⟩
        case round =>
          obtain ⟨k2, hk2, rfl, rfl, hn⟩ := hrel
          by_cases hlt : k2 < x.length
          · obtain ⟨c, hc⟩ : ∃ c, x[k2]? = some c := ⟨_, List.getElem?_eq_getElem hlt⟩
            have HC := Lib.hid (HL.out.2 c (List.mem_of_getElem? hc))
            have hx3 := HL.out.1
            have p0 := hn.cell f0
            have p1 := hn.cell f1
            have p2 := hn.cell f2
            have p3 := hn.cell f3
            have p4 := hn.cell f4
            have hzp := Nat.lt_of_lt_of_le hzr hn.size
            have HNr2 := Lib.hid hn
            have HT := Lib.hid (joinJ_take nm (x.map fun c => opnd c ⟨kop, rd, rs1, rs2, imm⟩) k2 (opnd c ⟨kop, rd, rs1, rs2, imm⟩) (by rw [List.getElem?_map, hc]; rfl))
            have ho := opnd_len c ⟨kop, rd, rs1, rs2, imm⟩ h0 h1
            have hJ := joinJ_len nm ((x.map fun c => opnd c ⟨kop, rd, rs1, rs2, imm⟩).take k2) (fun o ho => by obtain ⟨c, _, rfl⟩ := List.mem_map.1 (List.mem_of_mem_take ho); exact opnd_len c _ h0 h1)
            rw [List.length_take, List.length_map] at hJ
            have hnm := HNM.out
            have dl : decide ((k2 : Int) < x.length) = true := decide_eq_true (by omega)
            have hix : ∀ h, (((B x)[k2]'h).toNat : Int) = c.toNat := by
              intro h
              obtain ⟨h1, h2⟩ := List.getElem?_eq_some_iff.1 hc
              have : (B x)[k2]'h = c := h2
              rw [this]
            have CR := Lib.hid (fun w => roperand_any c HC.out kop rd rs1 rs2 imm w h0 h1)
            generalize hcu : joinJ nm ((x.map fun c => opnd c ⟨kop, rd, rs1, rs2, imm⟩).take k2) = cu at *
            clear hcu hc hn
            by_cases hz2 : k2 = 0
            · subst hz2
              have a1 := app_B cu [32]
              have a2 := app_B (cu ++ [32]) (opnd c ⟨kop, rd, rs1, rs2, imm⟩)
              have s1 : ¬ 9223372036854775807 < cu.length + 1 := by omega
              have s2 : ¬ 9223372036854775807 < (cu ++ [32]).length + (opnd c ⟨kop, rd, rs1, rs2, imm⟩).length := by simp; omega
              have HVN := Lib.hid (show cu ++ [32] ++ opnd c ⟨kop, rd, rs1, rs2, imm⟩ = joinJ nm ((x.map fun c => opnd c ⟨kop, rd, rs1, rs2, imm⟩).take (0 + 1)) by rw [HT.out, if_pos rfl])
              generalize cu ++ [32] = cu2 at *
              generalize opnd c ⟨kop, rd, rs1, rs2, imm⟩ = oo at *
              clear ho hJ HT
              go_wp2_with fail
              (refine wp_region_nx 7 (by kernel_rfl) (by kernel_rfl) ?_; simp only [List.take_succ_cons, List.take_zero, List.drop_succ_cons, List.drop_zero]; (repeat (refine wpQuiet_step (fun K hK => ?_); go_simp; first | (refine hK _ ?_; clear hK K) | (apply Exists.intro; refine ⟨fun w' hw' => ?_, hK _ ?_⟩; (first | (with_reducible rfl) | (go_at_call 21; with_reducible exact (CR.out _).mono fun _ _ h => ⟨h.1, hw'.trans h.2⟩) | (obtain ⟨hc, hf⟩ := nx_cells hw'; go_simp; with_reducible rfl) | (obtain ⟨hc, hf⟩ := nx_cells hw'; go_simp; rfl)); clear hK K))); refine wpQuiet_nil ?_; intro w8 hn8)
              have HN8 := Lib.hid (HNr2.out.trans hn8)
              clear hn8 p0 p1 p2 p3 p4
              go_wp2
              go_roundw
              case rel => exact ⟨1, by omega, by go_num, by rw [← HVN.out], HN8.out⟩
              case measure => simp [intOf]; omega
            · have e5 : ((k2 : Int) == 0) = false := by rw [beq_eq_false_iff_ne]; omega
              have a1 := app_B cu [44, 32]
              have a2 := app_B (cu ++ [44, 32]) (opnd c ⟨kop, rd, rs1, rs2, imm⟩)
              have s1 : ¬ 9223372036854775807 < cu.length + 2 := by omega
              have s2 : ¬ 9223372036854775807 < (cu ++ [44, 32]).length + (opnd c ⟨kop, rd, rs1, rs2, imm⟩).length := by simp; omega
              have HVN := Lib.hid (show cu ++ [44, 32] ++ opnd c ⟨kop, rd, rs1, rs2, imm⟩ = joinJ nm ((x.map fun c => opnd c ⟨kop, rd, rs1, rs2, imm⟩).take (k2 + 1)) by rw [HT.out, if_neg hz2])
              generalize cu ++ [44, 32] = cu2 at *
              generalize opnd c ⟨kop, rd, rs1, rs2, imm⟩ = oo at *
              clear ho hJ HT
              go_wp2_with fail
              (refine wp_region_nx 7 (by kernel_rfl) (by kernel_rfl) ?_; simp only [List.take_succ_cons, List.take_zero, List.drop_succ_cons, List.drop_zero]; (repeat (refine wpQuiet_step (fun K hK => ?_); go_simp; first | (refine hK _ ?_; clear hK K) | (apply Exists.intro; refine ⟨fun w' hw' => ?_, hK _ ?_⟩; (first | (with_reducible rfl) | (go_at_call 21; with_reducible exact (CR.out _).mono fun _ _ h => ⟨h.1, hw'.trans h.2⟩) | (obtain ⟨hc, hf⟩ := nx_cells hw'; go_simp; with_reducible rfl) | (obtain ⟨hc, hf⟩ := nx_cells hw'; go_simp; rfl)); clear hK K))); refine wpQuiet_nil ?_; intro w8 hn8)
              have HN8 := Lib.hid (HNr2.out.trans hn8)
              clear hn8 p0 p1 p2 p3 p4
              go_wp2
              go_roundw
              case rel => exact ⟨k2 + 1, by omega, by go_num, by rw [← HVN.out], HN8.out⟩
              case measure => simp [intOf]; omega
          · obtain rfl : k2 = x.length := by omega
            have HE := Lib.hid (show joinJ nm ((x.map fun c => opnd c ⟨kop, rd, rs1, rs2, imm⟩).take x.length) = joinJ nm (x.map fun c => opnd c ⟨kop, rd, rs1, rs2, imm⟩) by rw [List.take_of_length_le (by simp)])
            have HNr2 := Lib.hid (HW.out.trans hn)
            clear hn
            generalize joinJ nm ((x.map fun c => opnd c ⟨kop, rd, rs1, rs2, imm⟩).take x.length) = cu at *
            go_wp2
            go_ret
            refine ⟨?_, HNr2.out⟩
            rw [HV.out, ← HE.out]
            rfl

set_option maxRecDepth 100000 in
set_option maxHeartbeats 8000000 in
theorem rText_short (i : In5) (s : List UInt8) (w : World) (h0 : -2147483648 ≤ i.imm) (h1 : i.imm ≤ 2147483647) (hm : mayB i.op i.rd i.rs1 i.rs2 i.imm = true) (hs : s ≠ []) (hf : fitS (B s) i.op i.rd i.rs1 i.rs2 i.imm = true) :
    Calls Tryd.prog 8 #[.agg #[.int .i64 i.op, .int .i64 i.rd, .int .i64 i.rs1, .int .i64 i.rs2, .int .i32 i.imm], .string (B s)] w fun e w' => e = .returned (.string (B (textP i s))) ∧ Nx w w' := by
  obtain ⟨m, r, hr, er, _⟩ := fitS_at _ _ _ _ _ _ hf
  obtain ⟨es, ei⟩ := name_at m r hr
  have hn27 : m < 27 := (List.getElem?_eq_some_iff.1 hr).1
  have eL : letS s = letSL.getD m [] := by unfold letS; rw [← er, ei]
  have esB : s = shB.getD m [] := er.symm.trans es
  have HV := Lib.hid (show textP i s = joinJ s ((letSL.getD m []).map fun c => opnd c i) by unfold textP okT opsT nmT lsT; rw [hm, hf, if_neg hs, if_neg hs, eL]; simp)
  have HL := Lib.hid (And.intro (lsT_len i s) (lsT_C i s))
  have HNM := Lib.hid (nmT_opC i s (by unfold okT; rw [hm, hf]; simp)).2
  have el : lsT i s = letSL.getD m [] := by unfold lsT; rw [if_neg hs, eL]
  have en : nmT i s = s := by unfold nmT; rw [if_neg hs]
  rw [el] at HL
  rw [en] at HNM
  have CLQ := Lib.hid (fun n w => letters17_sh m hn27 n w)
  rw [← esB] at CLQ
  obtain ⟨L, hL⟩ : ∃ L, letSL.getD m [] = L := ⟨_, rfl⟩
  rw [hL] at HL HV CLQ
  have HLQ := Lib.hid (fun w => CLQ.out 0 w)
  have HQ := Lib.hid (show ¬ ([63] : List UInt8) = L by
    rw [← hL]
    have hq : ∀ m : Nat, m < 27 → ¬ ([63] : List UInt8) = letSL.getD m [] := by decide
    exact hq m hn27)
  have HST := Lib.hid (show lqP L 0 = L ∨ (lqP L 0 = [63] ∧ ∀ (n : Nat) (w : World), n ≤ 3 → Calls Tryd.prog 20 #[.string (B s), .int .i64 n] w (RetLq L n w)) by
    by_cases h2 : L.length = 0
    · exact Or.inl (by unfold lqP; rw [if_pos h2])
    · exact Or.inr ⟨by unfold lqP; rw [if_neg h2], fun n w _ => CLQ.out n w⟩)
  clear CLQ hL el en eL esB es er ei hr hn27
  obtain ⟨op, rd, rs1, rs2, imm⟩ := i
  dsimp only at *
  obtain ⟨kop, rfl, hk49, hnm⟩ := may_nm op rd rs1 rs2 imm hm
  obtain ⟨nm, hnm2⟩ : ∃ nm, nmB.getD kop [] = nm := ⟨_, rfl⟩
  have HS := Lib.hid (show nmB[kop]? = some nm by rw [← hnm2]; exact hnm)
  clear hnm hnm2
  have hne : (s == []) = false := by rw [beq_eq_false_iff_ne]; exact hs
  clear hs
  go_enter Tryd.func8, Tryd.ntmps8
  go_wp2_with fail
  refine (rmay_any kop rd rs1 rs2 imm _ h0 h1).mono ?_
  rintro e w2 ⟨rfl, hn2⟩
  rw [hm]
  obtain ⟨c0, c1, c2, c3, c4, hz⟩ := five_in hn2
  have H2 := Lib.hid (((Nx.refl w).alloc _).trans hn2)
  clear hn2
  go_wp2_with fail
  refine (rFits_any (B s) kop rd rs1 rs2 imm _ h0 h1).mono ?_
  rintro e w3 ⟨rfl, hn3⟩
  rw [← fitS_ref, hf]
  have H3 := Lib.hid (H2.out.trans hn3)
  replace c0 := hn3.cell c0
  replace c1 := hn3.cell c1
  replace c2 := hn3.cell c2
  replace c3 := hn3.cell c3
  replace c4 := hn3.cell c4
  replace hz := Nat.lt_of_lt_of_le hz hn3.size
  clear hn3
  go_wp2
  go_region_with (go_at_call 10; refine (names_nm kop nm HS.out _).mono ?_; rintro e w4 ⟨g, rfl, hg, hn4⟩; have hn5 : Nx w3 w4 := Nx.trans ((Nx.refl _).drew) hn4; have d0 := hn5.cell c0)
  all_goals
    have d1 := hn5.cell c1
    have d2 := hn5.cell c2
    have d3 := hn5.cell c3
    have d4 := hn5.cell c4
    have hz5 : w.heap.size < w4.heap.size := Nat.lt_of_lt_of_le hz hn5.size
    have H5 := Lib.hid (H3.out.trans hn5)
    clear hn4 hn5 hg c0 c1 c2 c3 c4
    go_wp2_with fail
    refine (HLQ.out w4).mono ?_
    rintro e w6 ⟨rfl, hn6⟩
    have e0 := hn6.cell d0
    have e1 := hn6.cell d1
    have e2 := hn6.cell d2
    have e3 := hn6.cell d3
    have e4 := hn6.cell d4
    have hz6 := Nat.lt_of_lt_of_le hz5 hn6.size
    have H6 := Lib.hid (H5.out.trans hn6)
    clear hn6 d0 d1 d2 d3 d4
    obtain ⟨x0, hx0⟩ : ∃ x, lqP L 0 = x := ⟨_, rfl⟩
    rw [hx0]
    have HX0 := Lib.hid (show x0 = L ∨ (x0 = [63] ∧ ∀ (n : Nat) (w : World), n ≤ 3 → Calls Tryd.prog 20 #[.string (B s), .int .i64 n] w (RetLq L n w)) from hx0 ▸ HST.out)
    clear hx0
    go_wp2
    go_loopw [7, 9] (fun v i wr => ∃ (k : Nat) (x : List UInt8), k ≤ 4 ∧ i = .int .i64 k ∧ v = .string (B x) ∧ Hid (x = L ∨ (x = [63] ∧ k ≤ L.length ∧ ∀ (n : Nat) (w : World), n ≤ 3 → Calls Tryd.prog 20 #[.string (B s), .int .i64 n] w (RetLq L n w))) ∧ Nx w6 wr) (fun _ i _ => 4 - (intOf i).toNat)
    case atStart => exact ⟨0, x0, by omega, rfl, rfl, Lib.hid (HX0.out.imp id fun h => ⟨h.1, Nat.zero_le _, h.2⟩), Nx.refl _⟩
    case round =>
      obtain ⟨k, x, hk, rfl, rfl, HX, hn⟩ := hrel
      have HNr := Lib.hid hn
      by_cases hx : x = [63]
      · subst hx
        have hl : k ≤ L.length ∧ ∀ (n : Nat) (w : World), n ≤ 3 → Calls Tryd.prog 20 #[.string (B s), .int .i64 n] w (RetLq L n w) := by
          rcases HX.out with h | h
          · exact absurd h HQ.out
          · exact h.2
        have hk3 : k ≤ 3 := by have := HL.out.1; have := hl.1; omega
        have HC := Lib.hid hl.2
        have hkl := hl.1
        have dk : decide ((k : Int) < 4) = true := decide_eq_true (by omega)
        clear hl
        go_wp2_with fail
        refine (HC.out k wr hk3).mono ?_
        rintro e w7 ⟨rfl, hn7⟩
        have HN7 := Lib.hid (hn.trans hn7)
        by_cases hlk : L.length = k
        · have hv : lqP L k = L := by unfold lqP; rw [if_pos hlk]
          rw [hv]
          clear hn hn7
          go_wp2
          go_roundw
          case rel => exact ⟨k + 1, L, by omega, by go_num, rfl, Lib.hid (Or.inl rfl), HN7.out⟩
          case measure => simp [intOf]; omega
        · have hv : lqP L k = [63] := by unfold lqP; rw [if_neg hlk]
          rw [hv]
          clear hn hn7
          go_wp2
          go_roundw
          case rel => exact ⟨k + 1, [63], by omega, by go_num, rfl, Lib.hid (Or.inr ⟨rfl, by omega, HC.out⟩), HN7.out⟩
          case measure => simp [intOf]; omega
      · obtain rfl : x = L := by
          rcases HX.out with h | h
          · exact h
          · exact absurd h.1 hx
        have bx : (x == [63]) = false := by rw [beq_eq_false_iff_ne]; exact hx
        have f0 := hn.cell e0
        have f1 := hn.cell e1
        have f2 := hn.cell e2
        have f3 := hn.cell e3
        have f4 := hn.cell e4
        have hzr := Nat.lt_of_lt_of_le hz6 hn.size
        have HW := Lib.hid (H6.out.trans hn)
        clear hn HX HX0 HNr e0 e1 e2 e3 e4 hk
        obtain ⟨wq, hwq⟩ : ∃ wq, wr = wq := ⟨_, rfl⟩
        subst hwq
        go_wp2
        rename World => wA
        go_loopw [5, 10] (fun v i wr2 => ∃ k2 : Nat, k2 ≤ x.length ∧ i = .int .i64 k2 ∧ v = .string (B (joinJ s ((x.map fun c => opnd c ⟨kop, rd, rs1, rs2, imm⟩).take k2))) ∧ Nx wA wr2) (fun _ i _ => x.length - (intOf i).toNat)
        case atStart => exact ⟨0, Nat.zero_le _, rfl, by rw [List.take_zero]; rfl, Nx.refl _⟩
        case round =>
          obtain ⟨k2, hk2, rfl, rfl, hn⟩ := hrel
          by_cases hlt : k2 < x.length
          · obtain ⟨c, hc⟩ : ∃ c, x[k2]? = some c := ⟨_, List.getElem?_eq_getElem hlt⟩
            have HC := Lib.hid (HL.out.2 c (List.mem_of_getElem? hc))
            have hx3 := HL.out.1
            have p0 := hn.cell f0
            have p1 := hn.cell f1
            have p2 := hn.cell f2
            have p3 := hn.cell f3
            have p4 := hn.cell f4
            have hzp := Nat.lt_of_lt_of_le hzr hn.size
            have HNr2 := Lib.hid hn
            have HT := Lib.hid (joinJ_take s (x.map fun c => opnd c ⟨kop, rd, rs1, rs2, imm⟩) k2 (opnd c ⟨kop, rd, rs1, rs2, imm⟩) (by rw [List.getElem?_map, hc]; rfl))
            have ho := opnd_len c ⟨kop, rd, rs1, rs2, imm⟩ h0 h1
            have hJ := joinJ_len s ((x.map fun c => opnd c ⟨kop, rd, rs1, rs2, imm⟩).take k2) (fun o ho => by obtain ⟨c, _, rfl⟩ := List.mem_map.1 (List.mem_of_mem_take ho); exact opnd_len c _ h0 h1)
            rw [List.length_take, List.length_map] at hJ
            have hnm := HNM.out
            have dl : decide ((k2 : Int) < x.length) = true := decide_eq_true (by omega)
            have hix : ∀ h, (((B x)[k2]'h).toNat : Int) = c.toNat := by
              intro h
              obtain ⟨h1, h2⟩ := List.getElem?_eq_some_iff.1 hc
              have : (B x)[k2]'h = c := h2
              rw [this]
            have CR := Lib.hid (fun w => roperand_any c HC.out kop rd rs1 rs2 imm w h0 h1)
            generalize hcu : joinJ s ((x.map fun c => opnd c ⟨kop, rd, rs1, rs2, imm⟩).take k2) = cu at *
            clear hcu hc hn
            by_cases hz2 : k2 = 0
            · subst hz2
              have a1 := app_B cu [32]
              have a2 := app_B (cu ++ [32]) (opnd c ⟨kop, rd, rs1, rs2, imm⟩)
              have s1 : ¬ 9223372036854775807 < cu.length + 1 := by omega
              have s2 : ¬ 9223372036854775807 < (cu ++ [32]).length + (opnd c ⟨kop, rd, rs1, rs2, imm⟩).length := by simp; omega
              have HVN := Lib.hid (show cu ++ [32] ++ opnd c ⟨kop, rd, rs1, rs2, imm⟩ = joinJ s ((x.map fun c => opnd c ⟨kop, rd, rs1, rs2, imm⟩).take (0 + 1)) by rw [HT.out, if_pos rfl])
              generalize cu ++ [32] = cu2 at *
              generalize opnd c ⟨kop, rd, rs1, rs2, imm⟩ = oo at *
              clear ho hJ HT
              go_wp2_with fail
              (refine wp_region_nx 7 (by kernel_rfl) (by kernel_rfl) ?_; simp only [List.take_succ_cons, List.take_zero, List.drop_succ_cons, List.drop_zero]; (repeat (refine wpQuiet_step (fun K hK => ?_); go_simp; first | (refine hK _ ?_; clear hK K) | (apply Exists.intro; refine ⟨fun w' hw' => ?_, hK _ ?_⟩; (first | (with_reducible rfl) | (go_at_call 21; with_reducible exact (CR.out _).mono fun _ _ h => ⟨h.1, hw'.trans h.2⟩) | (obtain ⟨hc, hf⟩ := nx_cells hw'; go_simp; with_reducible rfl) | (obtain ⟨hc, hf⟩ := nx_cells hw'; go_simp; rfl)); clear hK K))); refine wpQuiet_nil ?_; intro w8 hn8)
              have HN8 := Lib.hid (HNr2.out.trans hn8)
              clear hn8 p0 p1 p2 p3 p4
              go_wp2
              go_roundw
              case rel => exact ⟨1, by omega, by go_num, by rw [← HVN.out], HN8.out⟩
              case measure => simp [intOf]; omega
            · have e5 : ((k2 : Int) == 0) = false := by rw [beq_eq_false_iff_ne]; omega
              have a1 := app_B cu [44, 32]
              have a2 := app_B (cu ++ [44, 32]) (opnd c ⟨kop, rd, rs1, rs2, imm⟩)
              have s1 : ¬ 9223372036854775807 < cu.length + 2 := by omega
              have s2 : ¬ 9223372036854775807 < (cu ++ [44, 32]).length + (opnd c ⟨kop, rd, rs1, rs2, imm⟩).length := by simp; omega
              have HVN := Lib.hid (show cu ++ [44, 32] ++ opnd c ⟨kop, rd, rs1, rs2, imm⟩ = joinJ s ((x.map fun c => opnd c ⟨kop, rd, rs1, rs2, imm⟩).take (k2 + 1)) by rw [HT.out, if_neg hz2])
              generalize cu ++ [44, 32] = cu2 at *
              generalize opnd c ⟨kop, rd, rs1, rs2, imm⟩ = oo at *
              clear ho hJ HT
              go_wp2_with fail
              (refine wp_region_nx 7 (by kernel_rfl) (by kernel_rfl) ?_; simp only [List.take_succ_cons, List.take_zero, List.drop_succ_cons, List.drop_zero]; (repeat (refine wpQuiet_step (fun K hK => ?_); go_simp; first | (refine hK _ ?_; clear hK K) | (apply Exists.intro; refine ⟨fun w' hw' => ?_, hK _ ?_⟩; (first | (with_reducible rfl) | (go_at_call 21; with_reducible exact (CR.out _).mono fun _ _ h => ⟨h.1, hw'.trans h.2⟩) | (obtain ⟨hc, hf⟩ := nx_cells hw'; go_simp; with_reducible rfl) | (obtain ⟨hc, hf⟩ := nx_cells hw'; go_simp; rfl)); clear hK K))); refine wpQuiet_nil ?_; intro w8 hn8)
              have HN8 := Lib.hid (HNr2.out.trans hn8)
              clear hn8 p0 p1 p2 p3 p4
              go_wp2
              go_roundw
              case rel => exact ⟨k2 + 1, by omega, by go_num, by rw [← HVN.out], HN8.out⟩
              case measure => simp [intOf]; omega
          · obtain rfl : k2 = x.length := by omega
            have HE := Lib.hid (show joinJ s ((x.map fun c => opnd c ⟨kop, rd, rs1, rs2, imm⟩).take x.length) = joinJ s (x.map fun c => opnd c ⟨kop, rd, rs1, rs2, imm⟩) by rw [List.take_of_length_le (by simp)])
            have HNr2 := Lib.hid (HW.out.trans hn)
            clear hn
            generalize joinJ s ((x.map fun c => opnd c ⟨kop, rd, rs1, rs2, imm⟩).take x.length) = cu at *
            go_wp2
            go_ret
            refine ⟨?_, HNr2.out⟩
            rw [HV.out, ← HE.out]
            rfl

set_option maxRecDepth 100000 in
set_option maxHeartbeats 8000000 in
theorem rText_any (i : In5) (s : List UInt8) (w : World) (h0 : -2147483648 ≤ i.imm) (h1 : i.imm ≤ 2147483647)  :
    Calls Tryd.prog 8 #[.agg #[.int .i64 i.op, .int .i64 i.rd, .int .i64 i.rs1, .int .i64 i.rs2, .int .i32 i.imm], .string (B s)] w fun e w' => e = .returned (.string (B (textP i s))) ∧ Nx w w' := by
  cases hm : mayB i.op i.rd i.rs1 i.rs2 i.imm with
  | false => exact rText_no i s w h0 h1 hm
  | true =>
    by_cases hs : s = []
    · exact rText_plain i s w h0 h1 hm hs
    · cases hf : fitS (B s) i.op i.rd i.rs1 i.rs2 i.imm with
      | false => exact rText_unfit i s w h0 h1 hm hs hf
      | true => exact rText_short i s w h0 h1 hm hs hf

end Go.Proofs.YtdgmdkkockbkjaaDoor
