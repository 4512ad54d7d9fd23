/- Parts of the proof, one behind the other. -/
import Derived.Test.YtdgmdkkockbkjaaGreatDoorLaids
import Derived.Lib.ConvBytes
import Derived.Test.YtdgmdkkockbkjaaGreatDoorZkar
/- Package typecaselaw23: awake; the walk of ShowTexts. -/
namespace Go.Proofs.YtdgmdkkockbkjaaGreatDoor
open Go.RowKit
set_option linter.unusedVariables false
set_option linter.unusedSimpArgs false

theorem shText_v (op rd rs1 rs2 imm : Int) (s t : List UInt8) (h : textP ⟨op, rd, rs1, rs2, imm⟩ s = t) (w : World) (h0 : -2147483648 ≤ imm) (h1 : imm ≤ 2147483647) (hP : NamesAt w ∧ Tab w) :
    Calls Tryz.prog 5 #[.agg #[.int .i64 op, .int .i64 rd, .int .i64 rs1, .int .i64 rs2, .int .i32 imm], .string (B s)] w fun e w' => e = .returned (.string (B t)) ∧ Nx w w' := by
  subst h
  exact shText_any ⟨op, rd, rs1, rs2, imm⟩ s w h0 h1 hP.1 hP.2

theorem hP_nx {w w' : World} (h : NamesAt w ∧ Tab w) (hn : Nx w w') : NamesAt w' ∧ Tab w' := ⟨h.1.keep hn, h.2.nx hn⟩

theorem itoa_m3 : Lib.itoa (-3) = [45, 51] := by
  unfold Lib.itoa
  rw [if_pos (by decide)]
  show 45 :: Lib.decDigits 3 = _
  rw [Lib.decDigits_one (by decide)]
  rfl

theorem itoa_12 : Lib.itoa 12 = [49, 50] := by
  unfold Lib.itoa
  rw [if_neg (by decide)]
  show Lib.decDigits 12 = _
  rw [Lib.decDigits_two (by decide) (by decide)]
  rfl

theorem awu_1 : textP ⟨19, 10, 11, 0, -3⟩ [] = [97, 100, 100, 105, 32, 97, 48, 44, 32, 97, 49, 44, 32, 45, 51] := by
  unfold textP
  rw [if_pos (by decide +kernel)]
  show joinJ [97, 100, 100, 105] [[97, 48], [97, 49], Lib.itoa (-3)] = _
  rw [itoa_m3]
  rfl

theorem awu_2 : textP ⟨5, 0, 8, 0, 12⟩ [] = [98, 101, 113, 32, 115, 48, 44, 32, 122, 101, 114, 111, 44, 32, 46, 43, 49, 50] := by
  unfold textP
  rw [if_pos (by decide +kernel)]
  show joinJ [98, 101, 113] [[115, 48], [122, 101, 114, 111], [46] ++ (if (0 : Int) ≤ 12 then [43] ++ Lib.itoa 12 else Lib.itoa 12)] = _
  rw [itoa_12]
  rfl

theorem awu_3 : textP ⟨5, 0, 8, 0, 12⟩ [99, 46, 98, 101, 113, 122] = [99, 46, 98, 101, 113, 122, 32, 115, 48, 44, 32, 46, 43, 49, 50] := by
  unfold textP
  rw [if_pos (by decide +kernel)]
  show joinJ [99, 46, 98, 101, 113, 122] [[115, 48], [46] ++ (if (0 : Int) ≤ 12 then [43] ++ Lib.itoa 12 else Lib.itoa 12)] = _
  rw [itoa_12]
  rfl

theorem awu_4 : textP ⟨5, 0, 8, 0, 12⟩ [99, 46, 98, 110, 101, 122] = [] := by
  unfold textP
  rw [if_neg (by decide +kernel)]

set_option maxHeartbeats 2000000 in
theorem awakeu_any (w : World) (hP : NamesAt w ∧ Tab w) : Calls Tryz.prog 4 #[] w fun e w' => e = .returned (.bool true) ∧ Nx w w' := by
  have HP := Lib.hid hP
  clear hP
  have H0 := Lib.hid ((Nx.refl w).alloc (.cells #[.int .i64 5, .int .i64 0, .int .i64 8, .int .i64 0, .int .i32 12] 23))
  go_enter Tryz.func4, Tryz.ntmps4
  go_wp2_with fail
  refine (shText_v 19 10 11 0 (-3) [] _ awu_1 _ (by omega) (by omega) (hP_nx HP.out H0.out)).mono ?_
  rintro e w1 ⟨rfl, hn1⟩
  obtain ⟨c0, c1, c2, c3, c4, hz⟩ := five_in hn1
  have H1 := Lib.hid (H0.out.trans hn1)
  clear hn1
  go_wp2_with fail
  refine (shText_v 5 0 8 0 12 [] _ awu_2 _ (by omega) (by omega) (hP_nx HP.out H1.out)).mono ?_
  rintro e w2 ⟨rfl, hn2⟩
  replace c0 := hn2.cell c0
  replace c1 := hn2.cell c1
  replace c2 := hn2.cell c2
  replace c3 := hn2.cell c3
  replace c4 := hn2.cell c4
  replace hz := Nat.lt_of_lt_of_le hz hn2.size
  have H2 := Lib.hid (H1.out.trans hn2)
  clear hn2
  go_wp2_with fail
  refine (shText_v 5 0 8 0 12 [99, 46, 98, 101, 113, 122] _ awu_3 _ (by omega) (by omega) (hP_nx HP.out H2.out)).mono ?_
  rintro e w3 ⟨rfl, hn3⟩
  replace c0 := hn3.cell c0
  replace c1 := hn3.cell c1
  replace c2 := hn3.cell c2
  replace c3 := hn3.cell c3
  replace c4 := hn3.cell c4
  replace hz := Nat.lt_of_lt_of_le hz hn3.size
  have H3 := Lib.hid (H2.out.trans hn3)
  clear hn3
  go_wp2_with fail
  refine (shText_v 5 0 8 0 12 [99, 46, 98, 110, 101, 122] _ awu_4 _ (by omega) (by omega) (hP_nx HP.out H3.out)).mono ?_
  rintro e w4 ⟨rfl, hn4⟩
  have H4 := Lib.hid (H3.out.trans hn4)
  clear hn4
  go_wp2
  go_ret
  exact ⟨rfl, H4.out⟩

end Go.Proofs.YtdgmdkkockbkjaaGreatDoor

/- Package typecaselaw23: the walk of ShowBack. -/
namespace Go.Proofs.YtdgmdkkockbkjaaGreatDoor
open Go.RowKit
set_option linter.unusedVariables false
set_option linter.unusedSimpArgs false

theorem nx_bytesz (w : World) (e : TypeId) (s : ByteArray) : Nx w (Lib.bytesWorld w e s) := by
  refine Below.grown (row := none) (Nx.refl w) ⟨?_, ?_, ?_, by rw [Lib.bytesWorld_size]; omega, fun k hk _ => Lib.bytesWorld_at_old w e s k hk⟩ (Nat.le_refl _) (fun k hk => by cases hk)
  all_goals simp [Lib.bytesWorld, World.freeze, World.alloc, World.drew, -World.alloc_eq, -World.drew_eq]

/-- The bytes of a string. -/
theorem conv_strz (w : World) (l : List UInt8) (hl : l.length ≤ 1000000) : ∃ v w', (convert 9 32 (.string (B l))).run Tryz.prog w = .ok v w' ∧ Nx w w' ∧ Bys w' v l := by
  refine ⟨_, _, Lib.run_convert_string_bytes w 9 32 5 (B l) Tryz.underlying9 Tryz.underlying32 Tryz.underlying5, nx_bytesz w _ _, ?_⟩
  have hs : (B l).size = l.length := rfl
  refine Or.inr ⟨w.heap.size, 0, grownCap w l.length 0 5, rfl, grownCap_ge w _ _ _, grownCap_le_maxLen w _ _ _ (by unfold maxLen; omega), fun k b hk => ?_⟩
  rw [Nat.zero_add, Lib.bytesWorld_cell w 5 (B l) k (by rw [hs]; exact (List.getElem?_eq_some_iff.1 hk).1)]
  show some (Value.int .u8 (l.getD k 0).toNat) = _
  rw [List.getD_eq_getElem?_getD, hk]
  rfl

theorem opK_len (o : Opd) : (opK o).length ≤ 5 := by
  cases o <;> simp [opK, numK] <;> split <;> simp

theorem tailK_len : ∀ os : List Opd, (tailK os).length ≤ 6 * os.length
  | [] => by simp [tailK]
  | o :: r => by
    have h1 := opK_len o
    have h2 := tailK_len r
    simp [tailK]
    omega

theorem opsK_len (os : List Opd) : (opsK os).length ≤ 6 * os.length := by
  cases os with
  | nil => simp [opsK]
  | cons o r =>
    have h1 := opK_len o
    have h2 := tailK_len r
    simp [opsK]
    omega

theorem back_u32 (p v : Int) : ((p + v) % 4294967296 - p) % 4294967296 = v % 4294967296 := by omega

/-- One line. -/
theorem one_line {w : World} {v : Value} {l : List Tok} (h : Lins w v [l]) : ∃ g o c u, v = .slice (some ⟨g, o, none⟩) 1 c ∧ 1 ≤ c ∧ w.cell? ⟨g, o, none⟩ = some u ∧ Toks w u l := by
  rcases h with ⟨_, h⟩ | ⟨g, o, c, h1, h2, h3, h4⟩
  · cases h
  · obtain ⟨u, h5, h6⟩ := h4 0 l rfl
    exact ⟨g, o, c, u, h1, h2, h5, h6⟩

theorem text_none {i : In5} {s : List UInt8} (h : okT i s = false) : textP i s = [] := by
  unfold textP
  rw [h]
  rfl

theorem text_some {i : In5} {s : List UInt8} (h : okT i s = true) : (textP i s == []) = false := by
  have hn := (nm_pos i s h).1
  unfold textP
  rw [if_pos h]
  cases hm : nmT i s with
  | nil => exact absurd hm hn
  | cons a r => cases opsT i s <;> rfl

set_option maxHeartbeats 16000000 in
set_option maxRecDepth 100000 in
theorem ShowBack_walk0 (op rd rs1 rs2 imm : Int) (s : List UInt8) (p : Int) (h0 : -2147483648 ≤ imm) (h1 : imm ≤ 2147483647) (hs : s.length ≤ maxLen) (w : World) (hP : NamesAt w ∧ Tab w) :
    Calls Tryz.prog 3 #[.agg #[.int .i64 op, .int .i64 rd, .int .i64 rs1, .int .i64 rs2, .int .i32 imm], .string (B s), .int .u32 p] w fun e w' => e = .returned (.bool true) ∧ Nx w w' := by
  have HP := Lib.hid hP
  have H0 := Lib.hid ((Nx.refl w).alloc (insO ⟨op, rd, rs1, rs2, imm⟩))
  unfold maxLen at hs
  clear hP
  go_enter Tryz.func3, Tryz.ntmps3
  go_wp2_with fail
  refine (awakeu_any _ (hP_nx HP.out H0.out)).mono ?_
  rintro e w1 ⟨rfl, hn1⟩
  have KI := Lib.hid (Has.nx (Has.new w (insO ⟨op, rd, rs1, rs2, imm⟩)) hn1)
  have H1 := Lib.hid (H0.out.trans hn1)
  clear hn1
  have ac0 := KI.out.cell 0 _ rfl
  have ac1 := KI.out.cell 1 _ rfl
  have ac2 := KI.out.cell 2 _ rfl
  have ac3 := KI.out.cell 3 _ rfl
  have ac4 := KI.out.cell 4 _ rfl
  have az := KI.out.lt
  by_cases hl : 50 < s.length
  · have d1 : decide ((50 : Int) < s.length) = true := decide_eq_true (by omega)
    go_wp2
    go_ret
    exact ⟨rfl, H1.out⟩
  have d1 : decide ((50 : Int) < s.length) = false := decide_eq_false (by omega)
  cases hok : okT ⟨op, rd, rs1, rs2, imm⟩ s
  · have CT := Lib.hid (shText_v op rd rs1 rs2 imm s _ (text_none hok) w1 h0 h1 (hP_nx HP.out H1.out))
    go_wp2_with fail
    refine CT.out.mono ?_
    rintro e w2 ⟨rfl, hn2⟩
    have H2 := Lib.hid (H1.out.trans hn2)
    clear hn2
    go_wp2
    go_ret
    exact ⟨rfl, H2.out⟩
  have hne := text_some hok
  obtain ⟨htl, ts, hsrc, hkey⟩ := src_text ⟨op, rd, rs1, rs2, imm⟩ s hok ⟨h0, h1⟩
  have hl3 := lsT_len ⟨op, rd, rs1, rs2, imm⟩ s
  obtain ⟨T, hT⟩ : ∃ T, textP ⟨op, rd, rs1, rs2, imm⟩ s = T := ⟨_, rfl⟩
  rw [hT] at hne htl hsrc
  obtain ⟨os, hos⟩ : ∃ x, (lsT ⟨op, rd, rs1, rs2, imm⟩ s).map (fun c => opO c ⟨op, rd, rs1, rs2, imm⟩) = x := ⟨_, rfl⟩
  have hol : os.length ≤ 3 := by rw [← hos]; simpa using hl3
  have hoo : ∀ o ∈ os, opOk o := by
    intro o ho
    rw [← hos] at ho
    obtain ⟨c, _, rfl⟩ := List.mem_map.1 ho
    exact opO_ok c _ (may_rgs _ (okT_may _ s hok)) ⟨h0, h1⟩
  rw [hos] at hkey
  have htsl : ts.length ≤ 100 := by
    have e1 := congrArg List.length hkey
    have e2 := opsK_len os
    simp at e1
    omega
  have CL := Lib.hid (fun (ln cl : Int) (av : Value) (qs : List Arg) (base : Nat) (w5 : World) (hA : OwnA w5 base av qs) (hq : qs.map Arg.o = os) w' (hn : Nx w5 w') => lower_any ⟨op, rd, rs1, rs2, imm⟩ s hok h0 h1 ln cl av qs base w' (hA.nx hn) (hq.trans hos.symm))
  obtain ⟨nm, hnm⟩ : ∃ x, nmT ⟨op, rd, rs1, rs2, imm⟩ s = x := ⟨_, rfl⟩
  rw [hnm] at CL hkey
  have CT := Lib.hid (shText_v op rd rs1 rs2 imm s _ hT w1 h0 h1 (hP_nx HP.out H1.out))
  have CS := Lib.hid (fun (v : Value) (w' : World) (hT : Toks w' v ts) => stm_any v ts nm os w' hT (by omega) hkey hoo hol)
  have HSRC := Lib.hid hsrc
  have HLS := Lib.hid hl3
  clear hsrc hkey hoo hos hol hT hnm htsl hl3
  go_wp2_with fail
  refine CT.out.mono ?_
  rintro e w2 ⟨rfl, hn2⟩
  have H2 := Lib.hid (H1.out.trans hn2)
  have KI := Lib.hid (KI.out.nx hn2)
  clear hn2 CT ac0 ac1 ac2 ac3 ac4 az
  obtain ⟨vb, w3, hcv, hn3, hb3⟩ := conv_strz w2 T (by omega)
  have H3 := Lib.hid (H2.out.trans hn3)
  have KI := Lib.hid (KI.out.nx hn3)
  have CE := Lib.hid (show Calls Tryz.prog 6 #[vb] w3 fun e w' => ∃ u, e = .returned (.tuple #[u, fltV]) ∧ Nx w3 w' ∧ Lins w' u [ts] from by
    refine (lines_any vb T w3 hb3 (by omega)).mono ?_
    rintro e w' ⟨u, a, b, c, rfl, hn, ⟨ls, h, hL, rfl, rfl, rfl⟩ | ⟨h, _⟩⟩
    · rw [HSRC.out] at h; cases h; exact ⟨u, rfl, hn, hL⟩
    · rw [HSRC.out] at h; cases h)
  clear hn3 hb3 htl
  go_wp2_with fail
  refine CE.out.mono ?_
  rintro e w4 ⟨u, rfl, hn4, hL⟩
  obtain ⟨gL, oL, cL, u1, rfl, hcL, hcell, hT4⟩ := one_line hL
  have H4 := Lib.hid (H3.out.trans hn4)
  have KI := Lib.hid (KI.out.nx hn4)
  have HT4 := Lib.hid hT4
  have zL := block_lt hcell
  have hcLI : (1 : Int) ≤ cL := by omega
  clear hn4 hL hT4 CE hcv
  go_wp2_with fail
  refine (CS.out u1 _ (HT4.out.nx (by with_reducible exact (Nx.refl _).alloc _))).mono ?_
  rintro e w5 ⟨ln, cl, av, qs, rfl, hn5, hq5, hA5⟩
  have H5 := Lib.hid (Nx.trans (H4.out.alloc _) hn5)
  have KI := Lib.hid (Has.nx (KI.out.alloc _) hn5)
  obtain ⟨Av, cv, rfl⟩ := hA5.form
  have CW := Lib.hid (CL.out ln cl _ qs _ w5 hA5 hq5 ((w5.alloc (stmO nm ln cl (.slice Av qs.length cv))).alloc fltO) (((Nx.refl w5).alloc _).alloc _))
  clear hn5 hq5 hA5 CS CL HT4 hcell zL
  go_wp2_with fail
  with_reducible refine CW.out.mono ?_
  rintro e w6 ⟨av6, kd, ln6, cl6, num, nv, rfl, hn6, hown, hlate⟩
  have KF := Lib.hid (Has.nx (Has.at_ (g := w5.heap.size + 1) _ fltO (by simp)) hn6)
  have H6 := Lib.hid (Nx.trans ((H5.out.alloc _).alloc _) hn6)
  have KI := Lib.hid (Has.nx ((KI.out.alloc _).alloc _) hn6)
  have HLT := Lib.hid (hlate.nx hn6)
  obtain ⟨g, cap, rfl, _, hcap, _⟩ := hown.some (by decide)
  have HO := Lib.hid (show ∀ (j : Nat) (u : Value), (itC kd ln6 cl6 [] (endI ⟨op, rd, rs1, rs2, imm⟩ s) s (szS s) nv num false false)[j]? = some u → w6.cell? ⟨g, j, none⟩ = some u from hown.cells rfl)
  have hcapI : (1 : Int) ≤ cap := by omega
  clear hn6 hown hlate CW hcap
  have ac0 := KI.out.cell 0 _ rfl
  have ac1 := KI.out.cell 1 _ rfl
  have ac2 := KI.out.cell 2 _ rfl
  have ac3 := KI.out.cell 3 _ rfl
  have ac4 := KI.out.cell 4 _ rfl
  have az := KI.out.lt
  have fc0 := KF.out.cell 0 _ rfl
  have fc1 := KF.out.cell 1 _ rfl
  have fc2 := KF.out.cell 2 _ rfl
  have fz := KF.out.lt
  have ic0 := HO.out 0 _ rfl
  have ic1 := HO.out 1 _ rfl
  have ic2 := HO.out 2 _ rfl
  have ic3 := HO.out 3 _ rfl
  have ic4 := HO.out 4 _ rfl
  have ic5 := HO.out 5 _ rfl
  have ic6 := HO.out 6 _ rfl
  have ic7 := HO.out 7 _ rfl
  have ic8 := HO.out 8 _ rfl
  have ic9 := HO.out 9 _ rfl
  have ic10 := HO.out 10 _ rfl
  have ic11 := HO.out 11 _ rfl
  have ic12 := HO.out 12 _ rfl
  have ic13 := HO.out 13 _ rfl
  have ic14 := HO.out 14 _ rfl
  have iz : g < w6.heap.size := block_lt ic0
  have ysan0 : w.heap.size ≠ w6.heap.size := by omega
  have ysal1 : w.heap.size < w6.heap.size + 1 := by omega
  have ysan1 : w.heap.size ≠ w6.heap.size + 1 := by omega
  have ysfn0 : w5.heap.size + 1 ≠ w6.heap.size := by omega
  have ysfl1 : w5.heap.size + 1 < w6.heap.size + 1 := by omega
  have ysfn1 : w5.heap.size + 1 ≠ w6.heap.size + 1 := by omega
  have ysin0 : g ≠ w6.heap.size := by omega
  have ysil1 : g < w6.heap.size + 1 := by omega
  have ysin1 : g ≠ w6.heap.size + 1 := by omega
  rcases HLT.out with ⟨⟨An, mn, cn, rfl⟩, ⟨h106, rfl⟩ | ⟨h106, rfl, rfl, ns, hN, hnk⟩⟩
  · have hend : endI ⟨op, rd, rs1, rs2, imm⟩ s = ⟨op, rd, rs1, rs2, imm⟩ := by
      unfold endI
      rw [h106]
      rfl
    rw [hend] at ic4 ic5 ic6 ic7 ic8
    have HH := Lib.hid h106
    clear h106 hend
    by_cases he : s = []
    all_goals
      have hsz : szS s = if s = [] then 4 else 2 := rfl
      first | rw [if_pos he] at hsz | rw [if_neg he] at hsz
      rw [hsz] at ic10
      clear hsz
      have he2 : (s == []) = decide (s = []) := by cases s <;> rfl
      first | rw [decide_eq_true he] at he2 | rw [decide_eq_false he] at he2
      clear he
      go_wp2
      go_region
      all_goals
        go_wp2
        go_ret
        exact ⟨rfl, by repeat (with_reducible first | exact H6.out | refine Nx.drew ?_ | refine Nx.alloc ?_ _)⟩
  · have hend : endI ⟨op, rd, rs1, rs2, imm⟩ s = ⟨op, rd, rs1, rs2, 0⟩ := by
      unfold endI
      rw [h106]
      rfl
    rw [hend] at ic4 ic5 ic6 ic7 ic8
    have CV := Lib.hid (fun w' (hn : Nx w6 w') => value_any false p _ _ ns w' (hN.nx hn) (by have := congrArg List.length hnk; simp [hereN] at this; omega) (vfut_here p imm ns hnk))
    have hwb := back_u32 p imm
    have hw32 := wrap_back imm h0 h1
    clear h106 hend hN hnk
    by_cases he : s = []
    all_goals
      have hsz : szS s = if s = [] then 4 else 2 := rfl
      first | rw [if_pos he] at hsz | rw [if_neg he] at hsz
      rw [hsz] at ic10
      clear hsz
      have he2 : (s == []) = decide (s = []) := by cases s <;> rfl
      first | rw [decide_eq_true he] at he2 | rw [decide_eq_false he] at he2
      clear he
      go_wp2_with fail
      with_reducible refine (CV.out ((w6.alloc (optO true false)).alloc fltO) (((Nx.refl _).alloc _).alloc _)).mono ?_
      rintro e w7 ⟨rfl, hn7⟩
      have hx7 : Nx w6 w7 := Nx.trans (((Nx.refl w6).alloc _).alloc _) hn7
      have H7 := Lib.hid (H6.out.trans hx7)
      have KI := Lib.hid (KI.out.nx hx7)
      replace ic0 := hx7.cell ic0
      replace ic1 := hx7.cell ic1
      replace ic2 := hx7.cell ic2
      replace ic3 := hx7.cell ic3
      replace ic4 := hx7.cell ic4
      replace ic5 := hx7.cell ic5
      replace ic6 := hx7.cell ic6
      replace ic7 := hx7.cell ic7
      replace ic8 := hx7.cell ic8
      replace ic9 := hx7.cell ic9
      replace ic10 := hx7.cell ic10
      replace ic11 := hx7.cell ic11
      replace ic12 := hx7.cell ic12
      replace ic13 := hx7.cell ic13
      replace ic14 := hx7.cell ic14
      replace iz := Nat.lt_of_lt_of_le iz hx7.size
      clear hn7 hx7 ac0 ac1 ac2 ac3 ac4 az fc0 fc1 fc2 fz
      have ac0 := KI.out.cell 0 _ rfl
      have ac1 := KI.out.cell 1 _ rfl
      have ac2 := KI.out.cell 2 _ rfl
      have ac3 := KI.out.cell 3 _ rfl
      have ac4 := KI.out.cell 4 _ rfl
      have az := KI.out.lt
      have ytan0 : w.heap.size ≠ w7.heap.size := by omega
      have ytal1 : w.heap.size < w7.heap.size + 1 := by omega
      have ytan1 : w.heap.size ≠ w7.heap.size + 1 := by omega
      have ytal2 : w.heap.size < w7.heap.size + 1 + 1 := by omega
      have ytan2 : w.heap.size ≠ w7.heap.size + 1 + 1 := by omega
      have ytin0 : g ≠ w7.heap.size := by omega
      have ytil1 : g < w7.heap.size + 1 := by omega
      have ytin1 : g ≠ w7.heap.size + 1 := by omega
      have ytil2 : g < w7.heap.size + 1 + 1 := by omega
      have ytin2 : g ≠ w7.heap.size + 1 + 1 := by omega
      go_wp2
      go_ret
      exact ⟨rfl, by repeat (with_reducible first | exact H7.out | refine Nx.alloc ?_ _)⟩

theorem ShowBack_walk (op rd rs1 rs2 imm : Int) (a : ByteArray) (p : Int) (h0 : -2147483648 ≤ imm) (h1 : imm ≤ 2147483647) (ha : a.size ≤ maxLen) (_hp0 : 0 ≤ p) (_hp1 : p < 4294967296) (w : World) (hP : NamesAt w ∧ Tab w) :
    Calls Tryz.prog 3 #[.agg #[.int .i64 op, .int .i64 rd, .int .i64 rs1, .int .i64 rs2, .int .i32 imm], .string a, .int .u32 p] w fun e w' => e = .returned (.bool true) ∧ Nx w w' := by
  obtain ⟨⟨l⟩⟩ := a
  exact ShowBack_walk0 op rd rs1 rs2 imm l p h0 h1 ha w hP

end Go.Proofs.YtdgmdkkockbkjaaGreatDoor

