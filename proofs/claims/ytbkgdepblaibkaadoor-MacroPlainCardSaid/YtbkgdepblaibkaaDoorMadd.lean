/- Contracts of package macro: a head's reader: preset. -/
import Derived.Test.YtbkgdepblaibkaaDoorMadc
import Derived.IntWalk
namespace Go.Proofs.YtbkgdepblaibkaaDoor
open Go.RowKit
set_option linter.unusedVariables false
set_option linter.unusedSimpArgs false

/-- The last parameter's cells. -/
theorem parC_last (qs : List (PPar × Value)) (t : List UInt8) (d : List Tok) (u u' : Value) :
    ((parC (qs ++ [(⟨t, false, []⟩, u)])).set (qs.length * 3 + 1) (.bool true)).set (qs.length * 3 + 2) u' = parC (qs ++ [(⟨t, true, d⟩, u')]) := by
  rw [parC_snoc, parC_snoc, ← parC_len, List.set_append_right _ _ (by omega), Nat.add_sub_cancel_left]
  rw [List.set_append_right _ _ (by omega), Nat.add_sub_cancel_left]
  rfl

theorem parC_cell (qs : List (PPar × Value)) (q : PPar × Value) (j : Nat) (v : Value) (h : (parQ q)[j]? = some v) : (parC (qs ++ [q]))[qs.length * 3 + j]? = some v :=
  parC_at _ _ q (by simp) j v h

/-- The last parameter's default is laid. -/
theorem OwnQ.last {w w1 w2 : World} {base gp n cp : Nat} {qs : List (PPar × Value)} {t : List UInt8} {u u' : Value} {d : List Tok} (hn : n = qs.length) (h : OwnQ w base (.slice (some ⟨gp, 0, none⟩) (n + 1) cp) (qs ++ [(⟨t, false, []⟩, u)]))
    (h1 : w1 = w.setCell ⟨gp, n * 3 + 1, none⟩ (.bool true)) (hn2 : Nx w1 w2) (hT : Toks w2 u' d) (hf : ∀ b, u'.ownBlock = some b → w1.heap.size ≤ b ∧ b < w2.heap.size) (hb : base ≤ w1.heap.size) (hgp : gp < w1.heap.size) :
    OwnQ (w2.setCell ⟨gp, n * 3 + 2, none⟩ u') base (.slice (some ⟨gp, 0, none⟩) (n + 1) cp) (qs ++ [(⟨t, true, d⟩, u')]) := by
  subst hn
  have hl : (qs ++ [((⟨t, false, []⟩ : PPar), u)]).length = qs.length + 1 := by simp
  have hl2 : (qs ++ [((⟨t, true, d⟩ : PPar), u')]).length = qs.length + 1 := by simp
  obtain ⟨h3, h4⟩ := h
  rw [hl] at h3
  have a1 := h3.store (qs.length * 3 + 1) (.bool true) (by omega)
  rw [← h1] at a1
  have a2 := (a1.nx hn2).store (qs.length * 3 + 2) u' (by omega)
  rw [parC_last qs t d u u'] at a2
  refine ⟨by rw [hl2]; exact a2, fun q hq => ?_⟩
  have away : ∀ (x : Value) (y : List Tok), Toks w2 x y → (∀ b, x.ownBlock = some b → b ≠ gp) → Toks (w2.setCell ⟨gp, qs.length * 3 + 2, none⟩ u') x y := fun x y hx hne =>
    toks_block hx fun b hb => Below.heap_setCell w2 ⟨gp, qs.length * 3 + 2, none⟩ u' b (hne b hb)
  rcases List.mem_append.1 hq with hq | hq
  · obtain ⟨h5, h6⟩ := h4 q (List.mem_append_left _ hq)
    have hne : ∀ b, q.2.ownBlock = some b → b ≠ gp := fun b hb e => (h6 b hb).2.2 (by rw [e]; rfl)
    refine ⟨away _ _ ((toks_block h5 fun b hb => by rw [h1]; exact Below.heap_setCell w _ _ b (hne b hb)).nx hn2) hne, fun b hb => ⟨(h6 b hb).1, ?_, (h6 b hb).2.2⟩⟩
    have := (h6 b hb).2.1
    have e := hn2.size
    rw [h1] at e
    simp at e ⊢
    omega
  · simp at hq
    subst hq
    have hne : ∀ b, u'.ownBlock = some b → b ≠ gp := fun b hb e => by have := hf b hb; omega
    refine ⟨away _ _ hT hne, fun b hb => ⟨by have := hf b hb; omega, by have := hf b hb; simp; omega, fun e => ?_⟩⟩
    simp [Value.ownBlock] at e
    have := hf b hb
    omega

set_option maxHeartbeats 4000000 in
set_option maxRecDepth 100000 in
theorem hpreset_any (g i : Nat) (name t : List UInt8) (pv u : Value) (qs : List (PPar × Value)) (lv : Value) (l : List Tok) (w0 w : World) (hn0 : Nx w0 w) (hg : w0.heap.size ≤ g) (hH : Has w g (hdO lv i name pv)) (hQ : OwnQ w (g + 1) pv (qs ++ [(⟨t, false, []⟩, u)])) (hT : Toks w0 lv l) (hl : l.length ≤ 100000000) (hi0 : 0 < i) (hi : i ≤ l.length) (hq : qs.length + 1 ≤ i) :
    Calls Tryd.prog 77 #[.pointer (some ⟨g, 0, none⟩)] w (RetStep l lv g w0 (preT l name i (qs.map (·.1)) t) (NextP l g i name (preT l name i (qs.map (·.1)) t))) := by
  obtain ⟨gp, cp, hpv, hgp, hcp1, hcp2⟩ := hQ.1.some (by simp)
  rw [List.length_append, List.length_singleton] at hpv hcp1
  subst hpv
  obtain ⟨A, c, rfl, hc1, hc2, hA⟩ := hT.form
  obtain ⟨g2, o, rfl, _⟩ : ∃ g o, A = some ⟨g, o, none⟩ ∧ TokAt w0 g o l := by
    rcases hA with ⟨_, h, _⟩ | h
    · subst h; simp at hi; omega
    · exact h
  have HT := Lib.hid hT
  have HH := Lib.hid hH
  have HQ := Lib.hid hQ
  have HN0 := Lib.hid hn0
  have HG := Lib.hid hg
  have HV := Lib.hid (show preT l name i (qs.map (·.1)) t = (if i + comN 0 (l.drop i) < l.length then parT l name (i + comN 0 (l.drop i) + 1) (qs.map (·.1) ++ [⟨t, true, (l.drop i).take (comN 0 (l.drop i))⟩]) else .ok name (qs.map (·.1) ++ [⟨t, true, (l.drop i).take (comN 0 (l.drop i))⟩])) from rfl)
  obtain ⟨n, hn⟩ : ∃ n, comN 0 (l.drop i) = n := ⟨_, rfl⟩
  have hnl : n ≤ l.length - i := by rw [← hn, ← List.length_drop]; exact comN_le _ _
  rw [hn] at HV
  generalize preT l name i (qs.map (·.1)) t = V at *
  have uS := HQ.out.slices (⟨t, false, []⟩, u) (by simp)
  obtain ⟨ua, un, uc, hu⟩ := uS
  dsimp only at hu
  subst hu
  obtain ⟨m, hm⟩ : ∃ m, qs.length = m := ⟨_, rfl⟩
  rw [hm] at HQ HH hcp1 hq
  have HM := Lib.hid hm
  unfold maxLen at hc2
  have hln : l.length ≤ 100000000 := hl
  have hiI : (i : Int) ≤ l.length := by omega
  have hicI : (i : Int) ≤ c := by omega
  have hnI : (0 : Int) ≤ n := by omega
  have hinI : (i : Int) ≤ (i : Int) + n := by omega
  have hincI : (i : Int) + n ≤ c := by omega
  have hinlI : (i : Int) + n ≤ l.length := by omega
  have hmI : (0 : Int) ≤ (m : Int) := by omega
  have q1 : ((m + 1 : Nat) : Int) - 1 = m := by omega
  have q2 : (m : Int) + 1 - 1 = m := by omega
  have cel := fun w (h : OwnQ w (g + 1) (.slice (some ⟨gp, 0, none⟩) (m + 1) cp) (qs ++ [(⟨t, false, []⟩, .slice ua un uc)])) => h.1.cells (g := gp) rfl
  have ce1 : ∀ w (h : OwnQ w (g + 1) (.slice (some ⟨gp, 0, none⟩) (m + 1) cp) (qs ++ [(⟨t, false, []⟩, .slice ua un uc)])), w.cell? ⟨gp, m * 3 + 1, none⟩ = some (.bool false) := fun w h => cel w h _ _ (by rw [← HM.out]; exact parC_cell qs _ 1 _ rfl)
  have ce2 : ∀ w (h : OwnQ w (g + 1) (.slice (some ⟨gp, 0, none⟩) (m + 1) cp) (qs ++ [(⟨t, false, []⟩, .slice ua un uc)])), w.cell? ⟨gp, m * 3 + 2, none⟩ = some (.slice ua un uc) := fun w h => cel w h _ _ (by rw [← HM.out]; exact parC_cell qs _ 2 _ rfl)
  have CE1 := Lib.hid ce1
  have CE2 := Lib.hid ce2
  clear cel ce1 ce2
  have hT1 : Toks w0 (.slice (if c = i then some ⟨g2, o, none⟩ else some ⟨g2, o + i * 6, none⟩) (l.length - i) (c - i)) (l.drop i) := by
    split
    · rename_i h
      rw [show l.length - i = 0 by omega, show c - i = 0 by omega, List.drop_eq_nil_of_le (by omega)]
      exact toks_empty _ _
    · have h1 := toks_mid HT.out i l.length hi (Nat.le_refl _)
      rwa [List.take_length] at h1
  have hT2 : Toks w0 (.slice (if c = i then some ⟨g2, o, none⟩ else some ⟨g2, o + i * 6, none⟩) n (c - i)) ((l.drop i).take n) := by
    split
    · rename_i h
      rw [show n = 0 by omega, show c - i = 0 by omega, List.take_zero]
      exact toks_empty _ _
    · have h1 := toks_mid HT.out i (i + n) (by omega) (by omega)
      rwa [List.drop_take, Nat.add_sub_cancel_left] at h1
  clear hT hH hn0 hg hQ hA hc2 hl
  have CP := Lib.hid (fun w' (h : Nx w w') => part_any _ _ w' (hT1.nx (HN0.out.trans h)))
  have CP := Lib.hid (fun w' (h : Nx w w') => by have := CP.out w' h; rwa [hn] at this)
  have hlen : ((l.drop i).take n).length = n := by rw [List.length_take, List.length_drop]; omega
  have CO := Lib.hid (fun w' (h : Nx w0 w') => (show Calls Tryd.prog 53 #[.slice (if c = i then some ⟨g2, o, none⟩ else some ⟨g2, o + i * 6, none⟩) n (c - i)] w' (fun e w'' => ∃ A c, e = .returned (.slice A n c) ∧ Nx w' w'' ∧ Toks w'' (.slice A n c) ((l.drop i).take n) ∧ ∀ g, (Value.slice A n c).ownBlock = some g → w'.heap.size ≤ g ∧ g < w''.heap.size) from by
    have := own_any _ _ w' (hT2.nx h) (by rw [hlen]; omega)
    unfold RetToks at this
    rw [hlen] at this
    exact this))
  clear hT1 hT2 hlen hn
  have r0 : w.cell? ⟨g, 0, none⟩ = some (.slice (some ⟨g2, o, none⟩) l.length c) := HH.out.cell 0 _ rfl
  have r1 : w.cell? ⟨g, 1, none⟩ = some (.int .i64 i) := HH.out.cell 1 _ rfl
  go_enter Tryd.func77, Tryd.ntmps77
  go_wp2
  (refine wp_region_nx 10 (by kernel_rfl) (by kernel_rfl) ?_; simp only [List.take_succ_cons, List.take_zero, List.drop_succ_cons, List.drop_zero]; (repeat (refine wpQuiet_step (fun K hK => ?_); go_simp; first | (refine hK _ ?_; clear hK K) | (apply Exists.intro; refine ⟨fun w' hw' => ?_, hK _ ?_⟩; (first | (with_reducible rfl) | (go_at_call 52; with_reducible exact (CP.out _ hw').mono fun _ _ h => ⟨h.1, hw'.trans h.2⟩) | (rw [hw'.cell r0]; exact ⟨rfl, rfl⟩) | (rw [hw'.cell r1]; exact ⟨rfl, rfl⟩) | (obtain ⟨hc, hf⟩ := nx_cells hw'; go_simp; with_reducible rfl) | (obtain ⟨hc, hf⟩ := nx_cells hw'; go_simp; rfl)); clear hK K))); refine wpQuiet_nil ?_; intro w1 hn1)
  have HH1 := Lib.hid (HH.out.nx hn1)
  have HQ1 := Lib.hid (HQ.out.nx hn1)
  have HN1 := Lib.hid (HN0.out.trans hn1)
  clear hn1 r0 r1
  generalize (if c = i then some (⟨g2, o, none⟩ : Addr) else some ⟨g2, o + i * 6, none⟩) = AX
  have r3 : w1.cell? ⟨g, 3, none⟩ = some (.slice (some ⟨gp, 0, none⟩) (m + 1) cp) := HH1.out.cell 3 _ rfl
  have e1 := CE1.out _ HQ1.out
  have e2 := CE2.out _ HQ1.out
  have f1 := HQ1.out.1.free (g := gp) rfl (m * 3 + 1)
  have y1 := block_lt e1
  go_wp2
  go_quiet (fail)
  go_wp2
  obtain ⟨w2, hw2⟩ : ∃ w2, (w1.drewN nq).setCell ⟨gp, m * 3 + 1, none⟩ (.bool true) = w2 := ⟨_, rfl⟩
  rw [hw2]
  have HQd := Lib.hid (HQ1.out.nx ((Nx.refl w1).drewN nq))
  have HH2 := Lib.hid (show Has w2 g _ from hw2 ▸ (HH1.out.nx ((Nx.refl w1).drewN nq)).far (p := ⟨gp, m * 3 + 1, none⟩) (by show g ≠ gp; omega) (.bool true))
  have HN2 := Lib.hid (show Nx w0 w2 from hw2 ▸ (HN1.out.drewN nq).setCell (p := ⟨gp, m * 3 + 1, none⟩) (by show w0.heap.size ≤ gp; have := HG.out; omega) (.bool true))
  have HO2 := Lib.hid (show OwnC w2 (g + 1) 88 3 (.slice (some ⟨gp, 0, none⟩) (m + 1) cp) (m + 1) ((parC (qs ++ [(⟨t, false, []⟩, .slice ua un uc)])).set (m * 3 + 1) (.bool true)) from hw2 ▸ (OwnC.store (by have h := HQd.out.1; rw [List.length_append, List.length_singleton, HM.out] at h; exact h) (m * 3 + 1) (.bool true) (by omega)))
  have HC2 := Lib.hid (show ((parC (qs ++ [((⟨t, false, []⟩ : PPar), Value.slice ua un uc)])).set (m * 3 + 1) (.bool true))[m * 3 + 2]? = some (.slice ua un uc) from by
    rw [List.getElem?_set_ne (by omega), ← HM.out]
    exact parC_cell qs _ 2 _ rfl)
  have r0 : w2.cell? ⟨g, 0, none⟩ = some (.slice (some ⟨g2, o, none⟩) l.length c) := HH2.out.cell 0 _ rfl
  have r1 : w2.cell? ⟨g, 1, none⟩ = some (.int .i64 i) := HH2.out.cell 1 _ rfl
  clear r3 e1 e2 f1 y1
  have w1q : IntKind.i64.wrap ((i : Int) + n) = (i : Int) + n := IntWalk.i64_in _ (by omega)
  have w2q : (0 : Int) ≤ (i : Int) + n := by omega
  have w3q : ((i : Int) + n).toNat = i + n := by omega
  obtain ⟨AX, hAX⟩ : ∃ AX, (if c = i then some (⟨g2, o, none⟩ : Addr) else some ⟨g2, o + i * 6, none⟩) = AX := ⟨_, rfl⟩
  have CO4 := CO.out _ HN2.out.drew
  rw [hAX] at CO4
  have CO4 := Lib.hid CO4
  clear CO
  have f2 := HO2.out.free (g := gp) rfl (m * 3 + 2)
  have e2 : w2.cell? ⟨gp, m * 3 + 2, none⟩ = some (.slice ua un uc) := HO2.out.cells (g := gp) rfl _ _ HC2.out
  go_region_with (go_at_call 53; refine CO4.out.mono ?_; rintro e w4 ⟨A4, c4, rfl, hn4, hT4, hf4⟩; have hn5 : Nx w2 w4 := Nx.trans ((Nx.refl _).drew) hn4; have e3 := hn5.cell e2; have f3 := (hn5.frozen (p := ⟨gp, m * 3 + 2, none⟩) (block_lt e2)).trans f2)
  all_goals
    obtain ⟨w5, hw5⟩ : ∃ w5, w4.setCell ⟨gp, m * 3 + 2, none⟩ (.slice A4 n c4) = w5 := ⟨_, rfl⟩
    rw [hw5]
    have HN5 := Lib.hid (show Nx w0 w5 from hw5 ▸ (HN2.out.trans hn5).setCell (p := ⟨gp, m * 3 + 2, none⟩) (by show w0.heap.size ≤ gp; have := HG.out; omega) (.slice A4 n c4))
    have HH5 := Lib.hid (show Has w5 g _ from hw5 ▸ (HH2.out.nx hn5).far (p := ⟨gp, m * 3 + 2, none⟩) (by show g ≠ gp; omega) (.slice A4 n c4))
    have HQ5 := Lib.hid (show OwnQ w5 (g + 1) (.slice (some ⟨gp, 0, none⟩) (m + 1) cp) (qs ++ [(⟨t, true, (l.drop i).take n⟩, .slice A4 n c4)]) from hw5 ▸ OwnQ.last HM.out.symm HQd.out hw2.symm hn5 hT4 (fun b hb => hf4 b hb) (by have := HH2.out.lt; omega) (block_lt e2))
    have r0 : w5.cell? ⟨g, 0, none⟩ = some (.slice (some ⟨g2, o, none⟩) l.length c) := HH5.out.cell 0 _ rfl
    have r1 : w5.cell? ⟨g, 1, none⟩ = some (.int .i64 i) := HH5.out.cell 1 _ rfl
    have g1 := HH5.out.free 1
    have zg := HH5.out.lt
    clear hw5 hn5 hn4 hT4 hf4 e3 f3 e2 f2
    obtain ⟨k, hk⟩ : ∃ k, i + n = k := ⟨_, rfl⟩
    have hkI : (i : Int) + n = (k : Int) := by omega
    have hkI0 : (0 : Int) ≤ (k : Int) := by omega
    have HK := Lib.hid hk
    have hkl : k ≤ l.length := by omega
    have hik : i ≤ k := by omega
    go_wp2
    have HH6 := Lib.hid (show Has (w5.setCell ⟨g, 1, none⟩ (.int .i64 k)) g (hdO (.slice (some ⟨g2, o, none⟩) l.length c) k name (.slice (some ⟨gp, 0, none⟩) (m + 1) cp)) from HH5.out.put 1 (.int .i64 k))
    have HQ6 := Lib.hid (HQ5.out.set_ (p := ⟨g, 1, none⟩) (Nat.lt_succ_self g) (.int .i64 k))
    have HN6 := Lib.hid (HN5.out.setCell (p := ⟨g, 1, none⟩) HG.out (.int .i64 k))
    obtain ⟨w6, hw6⟩ : ∃ w6, w5.setCell ⟨g, 1, none⟩ (.int .i64 k) = w6 := ⟨_, rfl⟩
    rw [hw6] at HH6 HQ6 HN6 ⊢
    clear hw6 r0 r1 g1 zg HH5 HQ5 HN5
    have r0 : w6.cell? ⟨g, 0, none⟩ = some (.slice (some ⟨g2, o, none⟩) l.length c) := HH6.out.cell 0 _ rfl
    have r1 : w6.cell? ⟨g, 1, none⟩ = some (.int .i64 k) := HH6.out.cell 1 _ rfl
    have g1 := HH6.out.free 1
    have zg := HH6.out.lt
    by_cases hend : k = l.length
    · have be : ((k : Int) == l.length) = true := by simp; omega
      have HV2 := Lib.hid (show V = .ok name ((qs ++ [((⟨t, true, (l.drop i).take n⟩ : PPar), Value.slice A4 n c4)]).map (·.1)) from by
        rw [HV.out, if_neg (by omega), List.map_append]; rfl)
      go_quiet (fail)
      go_wp2
      go_ret2
      exact ⟨HN6.out.drewN _, Or.inr ⟨_, k, name, _, _, rfl, HH6.out.nx ((Nx.refl _).drewN _), HQ6.out.nx ((Nx.refl _).drewN _), by omega, by rw [List.length_append, List.length_singleton, HM.out]; omega, rfl, Or.inl ⟨rfl, HV2.out⟩⟩⟩
    · have be : ((k : Int) == l.length) = false := beq_eq_false_iff_ne.2 (by omega)
      have HV2 := Lib.hid (show parT l name (k + 1) ((qs ++ [((⟨t, true, (l.drop i).take n⟩ : PPar), Value.slice A4 n c4)]).map (·.1)) = V from by
        rw [HV.out, if_pos (by omega), HK.out, List.map_append]; rfl)
      go_quiet (fail)
      go_wp2
      go_ret2
      exact ⟨(HN6.out.drewN _).setCell (p := ⟨g, 1, none⟩) HG.out _, Or.inr ⟨_, k + 1, name, _, _, rfl, (HH6.out.nx ((Nx.refl _).drewN _)).put 1 (.int .i64 ((k : Int) + 1)), (HQ6.out.nx ((Nx.refl _).drewN _)).set_ (Nat.lt_succ_self g) _, by omega, by rw [List.length_append, List.length_singleton, HM.out]; omega, rfl, Or.inr (Or.inl ⟨rfl, by omega, by omega, HV2.out⟩)⟩⟩

end Go.Proofs.YtbkgdepblaibkaaDoor
