/- Parts of the proof, one behind the other. -/
import Derived.Deep.Cut
import Derived.Test.YtbkgdepblaibkaaDoorZhac
/- Contracts of typecaseref14: Head. -/
namespace Go.Proofs.YtbkgdepblaibkaaDoor
open Go.RowKit
set_option linter.unusedVariables false
set_option linter.unusedSimpArgs false

set_option maxHeartbeats 16000000 in
set_option maxRecDepth 100000 in
theorem rhead_any (v : Value) (l : List Tok) (w : World) (hT : Toks w v l) (hl : l.length ≤ 1000000) : Calls Tryd.prog 28 #[v] w (RetRHead (headP l) w) := by
  obtain ⟨A, c, rfl, hc1, hc2, hA⟩ := hT.form
  have hl2 : l.length ≤ 100000000 := by omega
  have HLL := Lib.hid hl2
  obtain ⟨V, hV⟩ : ∃ V, headP l = V := ⟨_, rfl⟩
  rw [hV]
  obtain ⟨j0, hj, hj0, hj1, hj2⟩ := info_parts tok_info
  have HJ := Lib.hid (And.intro hj (And.intro hj0 (And.intro hj1 hj2)))
  clear hj hj0 hj1 hj2
  have HV := Lib.hid hV
  have HT := Lib.hid hT
  have HAA := Lib.hid hA
  unfold maxLen at hc2
  obtain ⟨W, hW⟩ : ∃ W, (w.alloc (.cells #[.string ({ data := #[] } : ByteArray), .slice none 0 0, .slice none 0 0] 49)).alloc (.cells #[.int .i64 0, .int .i64 0, .int .i64 0] 30) = W := ⟨_, rfl⟩
  have HWE := Lib.hid hW
  have HWN := Lib.hid (show Nx w W from hW ▸ ((Nx.refl w).alloc _).alloc _)
  have hs : W.heap.size = w.heap.size + 1 + 1 := by rw [← hW]; simp
  have HZ := Lib.hid hs
  have HR0 := Lib.hid (show Has W w.heap.size (.cells #[.string (B []), .slice none 0 0, .slice none 0 0] 49) from hW ▸ (Has.new w _).alloc _)
  have HF0 := Lib.hid (show Has W (w.heap.size + 1) (.cells #[.int .i64 0, .int .i64 0, .int .i64 0] 30) from hW ▸ Has.at_ _ _ (by simp))
  clear hT hV hA hW hs hl2
  by_cases hk : 1 < l.length ∧ (atT l 1).kind = 1
  case neg =>
    have HV := Lib.hid (show V = badT l 1 5 from by rw [← HV.out]; unfold headP; rw [if_pos hk])
    by_cases h1 : 1 < l.length
    · obtain ⟨⟨kd, ln, cl, tx, nm, sc⟩, ht⟩ : ∃ t, l[1]? = some t := ⟨_, List.getElem?_eq_getElem h1⟩
      have hat := atT_in l 1 h1 _ ht
      have hkd : kd ≠ 1 := fun h => hk ⟨h1, by rw [hat]; exact h⟩
      obtain ⟨ga, oa, rfl, hTA⟩ : ∃ g o, A = some ⟨g, o, none⟩ ∧ TokAt w g o l := by
        rcases HAA.out with ⟨_, h, _⟩ | h
        · subst h; cases ht
        · exact h
      obtain ⟨a0, a1, a2, a3, a4, a5⟩ := hTA.at_ 1 _ ht
      dsimp only at a0
      have a0' : w.cell? ⟨ga, oa + 6, none⟩ = some (.int .i64 kd) := a0
      have hg := block_lt a0
      have hd : decide ((l.length : Int) < 2) = false := decide_eq_false (by omega)
      have bk : (kd != 1) = true := by rw [bne_iff_ne]; exact hkd
      have h1I : (1 : Int) < l.length := by omega
      clear hTA ht hat hk a1 a2 a3 a4 a5
      go_enter Tryd.func28, Tryd.ntmps28
      go_wp2_with fail
      rw [HWE.out]
      refine (rat_any _ l 1 5 _ (HT.out.nx (HWN.out.trans (Nx.refl W))) HLL.out).mono ?_
      rintro e wb ⟨rfl, hnb⟩
      have HB := Lib.hid ((Nx.refl W).trans hnb)
      have HWB := Lib.hid (HWN.out.trans HB.out)
      have hr := HR0.out.nx HB.out
      have hf := HF0.out.nx HB.out
      have r0 : wb.cell? ⟨w.heap.size, 0, none⟩ = some (.string (B [])) := hr.cell 0 _ rfl
      have r1 : wb.cell? ⟨w.heap.size, 1, none⟩ = some (.slice none 0 0) := hr.cell 1 _ rfl
      have r2 : wb.cell? ⟨w.heap.size, 2, none⟩ = some (.slice none 0 0) := hr.cell 2 _ rfl
      have f0 := hr.free 0
      have f1 := hr.free 1
      have f2 := hr.free 2
      have zr := hr.lt
      have s0 : wb.cell? ⟨w.heap.size + 1, 0, none⟩ = some (.int .i64 0) := hf.cell 0 _ rfl
      have s1 : wb.cell? ⟨w.heap.size + 1, 1, none⟩ = some (.int .i64 0) := hf.cell 1 _ rfl
      have s2 : wb.cell? ⟨w.heap.size + 1, 2, none⟩ = some (.int .i64 0) := hf.cell 2 _ rfl
      have g0 := hf.free 0
      have g1 := hf.free 1
      have g2 := hf.free 2
      have zf := hf.lt
      clear hnb hr hf
      go_wp2
      refine bodyPost_ret (v := .tuple #[.agg #[.string (B []), .slice none 0 0, .slice none 0 0], .agg #[.int .i64 (atT l (1)).line, .int .i64 (atT l (1)).col, .int .i64 5]]) (by simp [results, Tryd.results28, go_sem, r0, r1, r2, f0, f1, f2, s0, s1, s2, g0, g1, g2]) rfl ?_
      exact ⟨[], _, [], _, _, _, rfl, by repeat (with_reducible first | exact HWB.out | refine Nx.setCell ?_ (by first | exact Nat.le_refl _ | exact Nat.le_succ _) _), Or.inr ⟨HV.out, rfl, rfl, rfl⟩⟩
    · have hd : decide ((l.length : Int) < 2) = true := decide_eq_true (by omega)
      clear hk
      go_enter Tryd.func28, Tryd.ntmps28
      go_wp2_with fail
      rw [HWE.out]
      refine (rat_any _ l 1 5 _ (HT.out.nx (HWN.out.trans (Nx.refl W))) HLL.out).mono ?_
      rintro e wb ⟨rfl, hnb⟩
      have HB := Lib.hid ((Nx.refl W).trans hnb)
      have HWB := Lib.hid (HWN.out.trans HB.out)
      have hr := HR0.out.nx HB.out
      have hf := HF0.out.nx HB.out
      have r0 : wb.cell? ⟨w.heap.size, 0, none⟩ = some (.string (B [])) := hr.cell 0 _ rfl
      have r1 : wb.cell? ⟨w.heap.size, 1, none⟩ = some (.slice none 0 0) := hr.cell 1 _ rfl
      have r2 : wb.cell? ⟨w.heap.size, 2, none⟩ = some (.slice none 0 0) := hr.cell 2 _ rfl
      have f0 := hr.free 0
      have f1 := hr.free 1
      have f2 := hr.free 2
      have zr := hr.lt
      have s0 : wb.cell? ⟨w.heap.size + 1, 0, none⟩ = some (.int .i64 0) := hf.cell 0 _ rfl
      have s1 : wb.cell? ⟨w.heap.size + 1, 1, none⟩ = some (.int .i64 0) := hf.cell 1 _ rfl
      have s2 : wb.cell? ⟨w.heap.size + 1, 2, none⟩ = some (.int .i64 0) := hf.cell 2 _ rfl
      have g0 := hf.free 0
      have g1 := hf.free 1
      have g2 := hf.free 2
      have zf := hf.lt
      clear hnb hr hf
      go_wp2
      refine bodyPost_ret (v := .tuple #[.agg #[.string (B []), .slice none 0 0, .slice none 0 0], .agg #[.int .i64 (atT l (1)).line, .int .i64 (atT l (1)).col, .int .i64 5]]) (by simp [results, Tryd.results28, go_sem, r0, r1, r2, f0, f1, f2, s0, s1, s2, g0, g1, g2]) rfl ?_
      exact ⟨[], _, [], _, _, _, rfl, by repeat (with_reducible first | exact HWB.out | refine Nx.setCell ?_ (by first | exact Nat.le_refl _ | exact Nat.le_succ _) _), Or.inr ⟨HV.out, rfl, rfl, rfl⟩⟩
  case pos =>
    obtain ⟨⟨kd, ln, cl, tx, nm, sc⟩, ht⟩ : ∃ t, l[1]? = some t := ⟨_, List.getElem?_eq_getElem hk.1⟩
    have hat := atT_in l 1 hk.1 _ ht
    have hkd : kd = 1 := by have h := hk.2; rw [hat] at h; exact h
    subst hkd
    have HV0 : V = if tx.head? = some 46 then badT l 1 8 else if 2 < l.length then parT l tx 2 [] else .ok tx [] := by
      rw [← HV.out]
      unfold headP
      rw [if_neg (by simpa using hk), hat]
    have HV := Lib.hid HV0
    obtain ⟨ga, oa, rfl, hTA⟩ : ∃ g o, A = some ⟨g, o, none⟩ ∧ TokAt w g o l := by
      rcases HAA.out with ⟨_, h, _⟩ | h
      · subst h; cases ht
      · exact h
    obtain ⟨a0, a1, a2, a3, a4, a5⟩ := hTA.at_ 1 _ ht
    have HTA := Lib.hid hTA
    dsimp only at a0 a3
    have a0' : w.cell? ⟨ga, oa + 6, none⟩ = some (.int .i64 1) := a0
    have a3' : w.cell? ⟨ga, oa + 9, none⟩ = some (.string (B tx)) := a3
    have hg := block_lt a0
    have hd : decide ((l.length : Int) < 2) = false := decide_eq_false (by have := hk.1; omega)
    have h1I : (1 : Int) < l.length := by have := hk.1; omega
    have hle2 : 2 ≤ l.length := hk.1
    clear hTA ht hat hk HV0 a1 a2 a4 a5
    by_cases hdot : ∃ r, tx = 46 :: r
    · obtain ⟨r, rfl⟩ := hdot
      have HV := Lib.hid (show V = badT l 1 8 from by rw [HV.out]; simp)
      go_enter Tryd.func28, Tryd.ntmps28
      go_wp2_with fail
      rw [HWE.out]
      refine (rat_any _ l 1 8 _ (HT.out.nx (HWN.out.trans (Nx.refl W))) HLL.out).mono ?_
      rintro e wb ⟨rfl, hnb⟩
      have HB := Lib.hid ((Nx.refl W).trans hnb)
      have HWB := Lib.hid (HWN.out.trans HB.out)
      have hr := HR0.out.nx HB.out
      have hf := HF0.out.nx HB.out
      have r0 : wb.cell? ⟨w.heap.size, 0, none⟩ = some (.string (B [])) := hr.cell 0 _ rfl
      have r1 : wb.cell? ⟨w.heap.size, 1, none⟩ = some (.slice none 0 0) := hr.cell 1 _ rfl
      have r2 : wb.cell? ⟨w.heap.size, 2, none⟩ = some (.slice none 0 0) := hr.cell 2 _ rfl
      have f0 := hr.free 0
      have f1 := hr.free 1
      have f2 := hr.free 2
      have zr := hr.lt
      have s0 : wb.cell? ⟨w.heap.size + 1, 0, none⟩ = some (.int .i64 0) := hf.cell 0 _ rfl
      have s1 : wb.cell? ⟨w.heap.size + 1, 1, none⟩ = some (.int .i64 0) := hf.cell 1 _ rfl
      have s2 : wb.cell? ⟨w.heap.size + 1, 2, none⟩ = some (.int .i64 0) := hf.cell 2 _ rfl
      have g0 := hf.free 0
      have g1 := hf.free 1
      have g2 := hf.free 2
      have zf := hf.lt
      clear hnb hr hf
      go_wp2
      refine bodyPost_ret (v := .tuple #[.agg #[.string (B []), .slice none 0 0, .slice none 0 0], .agg #[.int .i64 (atT l (1)).line, .int .i64 (atT l (1)).col, .int .i64 8]]) (by simp [results, Tryd.results28, go_sem, r0, r1, r2, f0, f1, f2, s0, s1, s2, g0, g1, g2]) rfl ?_
      exact ⟨[], _, [], _, _, _, rfl, by repeat (with_reducible first | exact HWB.out | refine Nx.setCell ?_ (by first | exact Nat.le_refl _ | exact Nat.le_succ _) _), Or.inr ⟨HV.out, rfl, rfl, rfl⟩⟩
    have three : tx = [] ∨ ∃ x r, tx = x :: r ∧ x ≠ 46 := by
      cases tx with
      | nil => exact Or.inl rfl
      | cons x r => exact Or.inr ⟨x, r, rfl, fun h => hdot ⟨r, by rw [h]⟩⟩
    obtain ⟨nm0, hnm⟩ : ∃ nm0, nm0 = tx := ⟨_, rfl⟩
    have HMX := Lib.hid (show Has (W.alloc (.cells #[.string (B tx), .slice none 0 0, .slice none 0 0] 49)) (w.heap.size + 1 + 1) (.cells #[.string (B nm0), .slice none 0 0, .slice none 0 0] 49) from by rw [hnm]; exact Has.at_ W _ HZ.out.symm)
    have HST := Lib.hid (show ((2 < 2 ∨ 2 < l.length) ∧ parT l nm0 2 (([] : List (PPar × Value)).map (·.1)) = V ∨ 2 = 2 ∧ l.length = 2 ∧ ([] : List (PPar × Value)) = [] ∧ V = .ok nm0 []) from by
      have h := HV.out
      rw [if_neg (by intro h; rcases three with h3 | ⟨x, r, h3, h4⟩ <;> subst h3 <;> simp at h; exact h4 h), ← hnm] at h
      by_cases h2 : 2 < l.length
      · rw [if_pos h2] at h; exact Or.inl ⟨Or.inr h2, h.symm⟩
      · rw [if_neg h2] at h; exact Or.inr ⟨rfl, by omega, rfl, h⟩)
    obtain ⟨i0, pi, hz0, hz1, hz2⟩ := info_parts rpar_info
    have HI := Lib.hid (And.intro pi (And.intro hz0 (And.intro hz1 hz2)))
    clear pi hz0 hz1 hz2 HV hdot
    have hx46 : ∀ x : UInt8, x ≠ 46 → ((x.toNat : Int) == 46) = false := fun x h => u8n x 46 (by omega) false (beq_eq_false_iff_ne.2 h)
    rcases three with rfl | ⟨x, r, rfl, hx⟩
    · skip
      clear hnm hx46
      go_enter Tryd.func28, Tryd.ntmps28
      go_wp2
      rw [HWE.out]
      clear a0 a0' a3 a3' hd h1I
      go_loopw [5] (fun iv wr => RHeadRel l nm0 (w.heap.size + 1 + 1) W wr V iv) (fun iv _ => l.length + 1 - (intOf iv).toNat)
      case atStart => exact ⟨2, .slice none 0 0, [], rfl, Nat.le_refl _, hle2, Nat.zero_le _, (Nx.refl W).alloc _, HMX.out, OwnR.nil _ _, by first | exact HST.out | simpa using HST.out⟩
      case round =>
        obtain ⟨i, pv, qs, rfl, hi2, hil, hqi, hnx, hM, hO, hcase⟩ := hrel
        obtain ⟨wo, rfl⟩ : ∃ wo : World, wo = wr := ⟨_, rfl⟩
        have HX := Lib.hid hnx
        have HM := Lib.hid hM
        have HO := Lib.hid hO
        obtain ⟨Ap, cp, rfl⟩ := hO.form
        have hiI : (i : Int) ≤ 1000000 := by omega
        have hi0 : (0 : Int) ≤ i := by omega
        have hq6 : qs.length ≤ 1000000 := by omega
        clear hnx hM hO
        rcases hcase with ⟨hgo, hp⟩ | ⟨rfl, hl2, rfl, hv⟩
        case inr =>
          have HVF := Lib.hid hv
          have HO := Lib.hid (show OwnR wo (w.heap.size + 1 + 1 + 1) (.slice Ap 0 cp) ([] : List (PPar × Value)) from HO.out)
          have hd1 : decide ((2 : Int) < l.length) = false := decide_eq_false (by omega)
          have m0 : wo.cell? ⟨w.heap.size + 1 + 1, 0, none⟩ = some (.string (B nm0)) := HM.out.cell 0 _ rfl
          have m1 : wo.cell? ⟨w.heap.size + 1 + 1, 1, none⟩ = some (.slice Ap 0 cp) := HM.out.cell 1 _ rfl
          have m2 : wo.cell? ⟨w.heap.size + 1 + 1, 2, none⟩ = some (.slice none 0 0) := HM.out.cell 2 _ rfl
          have zm := HM.out.lt
          have hr := HR0.out.nx HX.out
          have hf := HF0.out.nx HX.out
          have r0 : wo.cell? ⟨w.heap.size, 0, none⟩ = some (.string (B [])) := hr.cell 0 _ rfl
          have r1 : wo.cell? ⟨w.heap.size, 1, none⟩ = some (.slice none 0 0) := hr.cell 1 _ rfl
          have r2 : wo.cell? ⟨w.heap.size, 2, none⟩ = some (.slice none 0 0) := hr.cell 2 _ rfl
          have f0 := hr.free 0
          have f1 := hr.free 1
          have f2 := hr.free 2
          have zr := hr.lt
          have s0 : wo.cell? ⟨w.heap.size + 1, 0, none⟩ = some (.int .i64 0) := hf.cell 0 _ rfl
          have s1 : wo.cell? ⟨w.heap.size + 1, 1, none⟩ = some (.int .i64 0) := hf.cell 1 _ rfl
          have s2 : wo.cell? ⟨w.heap.size + 1, 2, none⟩ = some (.int .i64 0) := hf.cell 2 _ rfl
          have g0 := hf.free 0
          have g1 := hf.free 1
          have g2 := hf.free 2
          have zf := hf.lt
          have HWB := Lib.hid (HWN.out.trans HX.out)
          clear hr hf hv
          go_wp2
          refine bodyPost_ret (v := .tuple #[.agg #[.string (B nm0), .slice Ap 0 cp, .slice none 0 0], .agg #[.int .i64 0, .int .i64 0, .int .i64 0]]) (by simp [results, Tryd.results28, go_sem, r0, r1, r2, f0, f1, f2, s0, s1, s2, g0, g1, g2]) rfl ?_
          exact ⟨nm0, _, ([] : List (PPar × Value)), _, _, _, rfl, by repeat (with_reducible first | exact HWB.out | refine Nx.setCell ?_ (by first | exact Nat.le_refl _ | exact Nat.le_succ _) _), Or.inl ⟨HVF.out, rfl, rfl, rfl, OwnR.parsQ (base := w.heap.size + 1 + 1 + 1) (by repeat (with_reducible first | exact HO.out | refine OwnR.set_ ?_ (by first | (show w.heap.size < _; omega) | (show w.heap.size + 1 < _; omega)) _))⟩⟩
        have hp2 := parT_step l nm0 i (qs.map (·.1)) hil
        rw [hp] at hp2
        by_cases hk : i < l.length ∧ (atT l i).kind = 1
        case neg =>
          have HVB := Lib.hid (show V = badT l i 5 from by rw [hp2, if_pos hk])
          by_cases h1 : i < l.length
          · obtain ⟨⟨kd, ln, cl, tx, nm, sc⟩, ht⟩ : ∃ t, l[i]? = some t := ⟨_, List.getElem?_eq_getElem h1⟩
            have hat := atT_in l i h1 _ ht
            have hkd : kd ≠ 1 := fun h => hk ⟨h1, by rw [hat]; exact h⟩
            obtain ⟨a0, a1, a2, a3, a4, a5⟩ := (HTA.out.nx (HWN.out.trans HX.out)).at_ i _ ht
            dsimp only at a0
            have y0 := block_lt a0
            have hd1 : decide ((i : Int) < l.length) = true := decide_eq_true (by omega)
            have hd2 : decide ((i : Int) ≥ l.length) = false := decide_eq_false (by omega)
            have bk : (kd != 1) = true := by rw [bne_iff_ne]; exact hkd
            have h1I : (i : Int) < l.length := by omega
            clear ht hat hk a1 a2 a3 a4 a5 hp hp2 hgo
            go_wp2_with fail
            refine (rat_any _ l i 5 _ (HT.out.nx (HWN.out.trans HX.out)) HLL.out).mono ?_
            rintro e wb ⟨rfl, hnb⟩
            have HB := Lib.hid (HX.out.trans hnb)
            have HWB := Lib.hid (HWN.out.trans HB.out)
            have hr := HR0.out.nx HB.out
            have hf := HF0.out.nx HB.out
            have r0 : wb.cell? ⟨w.heap.size, 0, none⟩ = some (.string (B [])) := hr.cell 0 _ rfl
            have r1 : wb.cell? ⟨w.heap.size, 1, none⟩ = some (.slice none 0 0) := hr.cell 1 _ rfl
            have r2 : wb.cell? ⟨w.heap.size, 2, none⟩ = some (.slice none 0 0) := hr.cell 2 _ rfl
            have f0 := hr.free 0
            have f1 := hr.free 1
            have f2 := hr.free 2
            have zr := hr.lt
            have s0 : wb.cell? ⟨w.heap.size + 1, 0, none⟩ = some (.int .i64 0) := hf.cell 0 _ rfl
            have s1 : wb.cell? ⟨w.heap.size + 1, 1, none⟩ = some (.int .i64 0) := hf.cell 1 _ rfl
            have s2 : wb.cell? ⟨w.heap.size + 1, 2, none⟩ = some (.int .i64 0) := hf.cell 2 _ rfl
            have g0 := hf.free 0
            have g1 := hf.free 1
            have g2 := hf.free 2
            have zf := hf.lt
            clear hnb hr hf
            go_wp2
            refine bodyPost_ret (v := .tuple #[.agg #[.string (B []), .slice none 0 0, .slice none 0 0], .agg #[.int .i64 (atT l (i)).line, .int .i64 (atT l (i)).col, .int .i64 5]]) (by simp [results, Tryd.results28, go_sem, r0, r1, r2, f0, f1, f2, s0, s1, s2, g0, g1, g2]) rfl ?_
            exact ⟨[], _, [], _, _, _, rfl, by repeat (with_reducible first | exact HWB.out | refine Nx.setCell ?_ (by first | exact Nat.le_refl _ | exact Nat.le_succ _) _), Or.inr ⟨HVB.out, rfl, rfl, rfl⟩⟩
          · have hd1 : decide ((i : Int) < l.length) = false := decide_eq_false (by omega)
            have hd2 : decide ((i : Int) ≥ l.length) = true := decide_eq_true (by omega)
            have hd3 : decide ((i : Int) > 2) = true := decide_eq_true (by omega)
            clear hk hp hp2 hgo
            go_wp2_with fail
            refine (rat_any _ l i 5 _ (HT.out.nx (HWN.out.trans HX.out)) HLL.out).mono ?_
            rintro e wb ⟨rfl, hnb⟩
            have HB := Lib.hid (HX.out.trans hnb)
            have HWB := Lib.hid (HWN.out.trans HB.out)
            have hr := HR0.out.nx HB.out
            have hf := HF0.out.nx HB.out
            have r0 : wb.cell? ⟨w.heap.size, 0, none⟩ = some (.string (B [])) := hr.cell 0 _ rfl
            have r1 : wb.cell? ⟨w.heap.size, 1, none⟩ = some (.slice none 0 0) := hr.cell 1 _ rfl
            have r2 : wb.cell? ⟨w.heap.size, 2, none⟩ = some (.slice none 0 0) := hr.cell 2 _ rfl
            have f0 := hr.free 0
            have f1 := hr.free 1
            have f2 := hr.free 2
            have zr := hr.lt
            have s0 : wb.cell? ⟨w.heap.size + 1, 0, none⟩ = some (.int .i64 0) := hf.cell 0 _ rfl
            have s1 : wb.cell? ⟨w.heap.size + 1, 1, none⟩ = some (.int .i64 0) := hf.cell 1 _ rfl
            have s2 : wb.cell? ⟨w.heap.size + 1, 2, none⟩ = some (.int .i64 0) := hf.cell 2 _ rfl
            have g0 := hf.free 0
            have g1 := hf.free 1
            have g2 := hf.free 2
            have zf := hf.lt
            clear hnb hr hf
            go_wp2
            refine bodyPost_ret (v := .tuple #[.agg #[.string (B []), .slice none 0 0, .slice none 0 0], .agg #[.int .i64 (atT l (i)).line, .int .i64 (atT l (i)).col, .int .i64 5]]) (by simp [results, Tryd.results28, go_sem, r0, r1, r2, f0, f1, f2, s0, s1, s2, g0, g1, g2]) rfl ?_
            exact ⟨[], _, [], _, _, _, rfl, by repeat (with_reducible first | exact HWB.out | refine Nx.setCell ?_ (by first | exact Nat.le_refl _ | exact Nat.le_succ _) _), Or.inr ⟨HVB.out, rfl, rfl, rfl⟩⟩
        obtain ⟨⟨kd, ln, cl, tx, nm, sc⟩, ht⟩ : ∃ t, l[i]? = some t := ⟨_, List.getElem?_eq_getElem hk.1⟩
        have hat := atT_in l i hk.1 _ ht
        have hkd : kd = 1 := by have h := hk.2; rw [hat] at h; exact h
        subst hkd
        have hilt : i < l.length := hk.1
        rw [if_neg (by simpa using hk), hat, any_fst] at hp2
        dsimp only at hp2
        have HP2 := Lib.hid hp2
        have HTT := Lib.hid ht
        have hd1 : decide ((i : Int) < l.length) = true := decide_eq_true (by omega)
        have hd2 : decide ((i : Int) ≥ l.length) = false := decide_eq_false (by omega)
        have h1I : (i : Int) < l.length := by omega
        obtain ⟨a0, a1, a2, a3, a4, a5⟩ := (HTA.out.nx (HWN.out.trans HX.out)).at_ i _ ht
        dsimp only at a0
        have y0 := block_lt a0
        clear hk ht hat hp hp2 hgo a1 a2 a3 a4 a5
        go_wp2
        clear a0 hd1 hd2
        go_loopw [6] (fun kv wr => ∃ k : Nat, k ≤ qs.length ∧ kv = .int .i64 k ∧ Nx wo wr ∧ ∀ q ∈ qs.take k, (q.1.name == tx) = false) (fun kv _ => qs.length - (intOf kv).toNat)
        case atStart => exact ⟨0, Nat.zero_le _, rfl, Nx.refl wo, fun q h => by simp at h⟩
        case round =>
          obtain ⟨k, hk, rfl, hnx, hno⟩ := hrel
          have KX := Lib.hid hnx
          have HXr := Lib.hid (HX.out.trans hnx)
          have HMr := Lib.hid (HM.out.nx hnx)
          have HOr := Lib.hid (HO.out.nx hnx)
          have HNO := Lib.hid hno
          have m1 : wr.cell? ⟨w.heap.size + 1 + 1, 1, none⟩ = some (.slice Ap qs.length cp) := HMr.out.cell 1 _ rfl
          have zm := HMr.out.lt
          obtain ⟨b0, b1, b2, b3, b4, b5⟩ := (HTA.out.nx (HWN.out.trans HXr.out)).at_ i _ HTT.out
          dsimp only at b3
          have y3 := block_lt b3
          clear hnx hno b0 b1 b2 b4 b5
          by_cases hlt : k < qs.length
          · obtain ⟨⟨⟨pn, hs, df⟩, dv⟩, hq⟩ : ∃ q, qs[k]? = some q := ⟨_, List.getElem?_eq_getElem hlt⟩
            obtain ⟨gp, op, rfl, hPA⟩ : ∃ g o, Ap = some ⟨g, o, none⟩ ∧ ParAt wr g o qs := by
              obtain ⟨A, c, h1, h2, h3, h4⟩ := HOr.out.pars.form
              cases h1
              rcases h4 with ⟨_, h, _⟩ | h
              · subst h; cases hq
              · exact h
            obtain ⟨p0, p1, p2⟩ := hPA.at_ k _ hq
            dsimp only at p0
            have yp := block_lt p0
            have HQ := Lib.hid hq
            have hkI : (k : Int) < qs.length := by omega
            clear hPA hq p1 p2
            cases hb : (pn == tx)
            · have HB := Lib.hid hb
              go_wp2
              go_quiet (fail)
              go_wp2
              go_roundw
              case rel => exact ⟨k + 1, by omega, by go_num, KX.out.drewN _, (by
                intro q hq
                rw [take_snoc' _ _ _ HQ.out] at hq
                rcases List.mem_append.1 hq with h | h
                · exact HNO.out q h
                · simp at h; subst h; exact HB.out)⟩
              case measure => simp [intOf]; omega
            · have HB := Lib.hid hb
              have HVB := Lib.hid (show V = badT l i 10 from by have h := HP2.out; rw [if_pos (hasN_at tx qs k _ HQ.out HB.out)] at h; exact h)
              go_wp2
              go_quiet (fail)
              go_wp2_with fail
              refine (rat_any _ l i 10 _ (HT.out.nx (HWN.out.trans (HXr.out.drewN nq))) HLL.out).mono ?_
              rintro e wb ⟨rfl, hnb⟩
              have HB := Lib.hid ((HXr.out.drewN nq).trans hnb)
              have HWB := Lib.hid (HWN.out.trans HB.out)
              have hr := HR0.out.nx HB.out
              have hf := HF0.out.nx HB.out
              have r0 : wb.cell? ⟨w.heap.size, 0, none⟩ = some (.string (B [])) := hr.cell 0 _ rfl
              have r1 : wb.cell? ⟨w.heap.size, 1, none⟩ = some (.slice none 0 0) := hr.cell 1 _ rfl
              have r2 : wb.cell? ⟨w.heap.size, 2, none⟩ = some (.slice none 0 0) := hr.cell 2 _ rfl
              have f0 := hr.free 0
              have f1 := hr.free 1
              have f2 := hr.free 2
              have zr := hr.lt
              have s0 : wb.cell? ⟨w.heap.size + 1, 0, none⟩ = some (.int .i64 0) := hf.cell 0 _ rfl
              have s1 : wb.cell? ⟨w.heap.size + 1, 1, none⟩ = some (.int .i64 0) := hf.cell 1 _ rfl
              have s2 : wb.cell? ⟨w.heap.size + 1, 2, none⟩ = some (.int .i64 0) := hf.cell 2 _ rfl
              have g0 := hf.free 0
              have g1 := hf.free 1
              have g2 := hf.free 2
              have zf := hf.lt
              clear hnb hr hf
              go_wp2
              refine bodyPost_ret (v := .tuple #[.agg #[.string (B []), .slice none 0 0, .slice none 0 0], .agg #[.int .i64 (atT l (i)).line, .int .i64 (atT l (i)).col, .int .i64 10]]) (by simp [results, Tryd.results28, go_sem, r0, r1, r2, f0, f1, f2, s0, s1, s2, g0, g1, g2]) rfl ?_
              exact ⟨[], _, [], _, _, _, rfl, by repeat (with_reducible first | exact HWB.out | refine Nx.setCell ?_ (by first | exact Nat.le_refl _ | exact Nat.le_succ _) _), Or.inr ⟨HVB.out, rfl, rfl, rfl⟩⟩
          · obtain rfl : k = qs.length := by omega
            have hdup := hasN_all tx qs (fun q hq => HNO.out q (by rw [List.take_length]; exact hq))
            have hp3 := HP2.out
            rw [if_neg (by rw [hdup]; simp)] at hp3
            have HP3 := Lib.hid hp3
            clear hdup hp3
            by_cases he : i + 1 < l.length
            case neg =>
              have hd3 : decide ((i : Int) + 1 < l.length) = false := decide_eq_false (by omega)
              have hd4 : decide ((i : Int) + 1 ≥ l.length) = true := decide_eq_true (by omega)
              have HVE := Lib.hid (show V = .ok nm0 ((qs ++ [((⟨tx, false, []⟩ : PPar), Value.slice none 0 0)]).map (·.1)) from by
                have h := HP3.out
                rw [if_neg (by omega), if_neg (by omega)] at h
                rw [h, List.map_append]; rfl)
              have HX6 := Lib.hid (HXr.out.alloc (.cells #[.string (B tx), .bool false, .slice none 0 0] 96))
              have HM6 := Lib.hid (HMr.out.alloc (.cells #[.string (B tx), .bool false, .slice none 0 0] 96))
              have HO6 := Lib.hid (HOr.out.nx ((Nx.refl wr).alloc (.cells #[.string (B tx), .bool false, .slice none 0 0] 96)))
              have HTD := Lib.hid (Toks.nil (wr.alloc (.cells #[.string (B tx), .bool false, .slice none 0 0] 96)))
              have HTB := Lib.hid (fun g (hg : (Value.slice none 0 0).ownBlock = some g) => (show w.heap.size + 1 + 1 + 1 ≤ g ∧ g < (wr.alloc (.cells #[.string (B tx), .bool false, .slice none 0 0] 96)).heap.size ∧ (Value.slice Ap qs.length cp).ownBlock ≠ some g from by cases hg))
              obtain ⟨pi, hz0, hz1, hz2⟩ := HI.out
              have hA := Lib.hid (HO6.out.1.alloc (.cells #[.string (B tx), .bool false, .slice none 0 0] 96))
              go_wp2_with (at_builtin; refine wpList_append_c _ rfl _ _ 47 rfl (w.heap.size + 1 + 1 + 1) 96 i0 _ 3 48 Tryd.underlying47 pi hz0 hz1 hz2 rfl (by decide) _ _ _ rfl hA.out (some ⟨wr.heap.size + 1, 0, none⟩) 1 1 [.string (B tx), .bool false, .slice none 0 0] rfl rfl (Or.inr ⟨_, rfl, ?ta1n⟩) ?ta2n ?ta3n ?ta4n ?ta5n ?_)
              try (case ta1n => (have h := six_at (wr.alloc (.cells #[.string (B tx), .bool false, .slice none 0 0] 96)) [.string (B tx), .bool false, .slice none 0 0] 96; first | exact h | simpa using h))
              case ta2n => simp [Value.oneCell']
              case ta3n => unfold maxLen; omega
              case ta4n => omega
              case ta5n => (have h6 := HX6.out.size; have h7 := HZ.out; simp at h6 ⊢; omega)
              intro v7 w7 hown7 hgr7 hbl7
              have HX7 := Lib.hid (show Nx W w7 from Below.grown (HX6.out.alloc _) hgr7 (by have h6 := HX6.out.size; simp at h6 ⊢; omega) (fun k hk => by have := (hA.out.lt k hk).1; have := HZ.out; omega))
              have HM7 := Lib.hid ((HM6.out.alloc (.cells #[.string (B tx), .bool false, .slice none 0 0] 96)).keep_grown hgr7 (fun e => by have := (hA.out.lt _ e).1; omega))
              have HO7 := Lib.hid (OwnR.push (q := (⟨tx, false, []⟩, Value.slice none 0 0)) (HO6.out.nx ((Nx.refl (wr.alloc (.cells #[.string (B tx), .bool false, .slice none 0 0] 96))).alloc (.cells #[.string (B tx), .bool false, .slice none 0 0] 96))) (HTD.out.nx ((Nx.refl (wr.alloc (.cells #[.string (B tx), .bool false, .slice none 0 0] 96))).alloc _)) (fun g hg => by have h := HTB.out g hg; exact ⟨h.1, by have h6 := h.2.1; simp at h6 ⊢; omega, h.2.2⟩) hgr7 (by simpa using hbl7) hown7)
              obtain ⟨A7, c7, he7⟩ := HO7.out.form
              rw [List.length_append, List.length_singleton] at he7
              subst he7
              have m0 : w7.cell? ⟨w.heap.size + 1 + 1, 0, none⟩ = some (.string (B nm0)) := HM7.out.cell 0 _ rfl
              have m1 : w7.cell? ⟨w.heap.size + 1 + 1, 1, none⟩ = some (.slice Ap qs.length cp) := HM7.out.cell 1 _ rfl
              have m2 : w7.cell? ⟨w.heap.size + 1 + 1, 2, none⟩ = some (.slice none 0 0) := HM7.out.cell 2 _ rfl
              have fm1 := HM7.out.free 1
              have zm := HM7.out.lt
              have HM8 := Lib.hid (show Has (w7.setCell ⟨w.heap.size + 1 + 1, 1, none⟩ (.slice A7 (qs.length + 1) c7)) (w.heap.size + 1 + 1) (.cells #[.string (B nm0), .slice A7 (qs.length + 1) c7, .slice none 0 0] 49) from HM7.out.put 1 (.slice A7 (qs.length + 1) c7))
              have HO8 := Lib.hid (HO7.out.set_ (p := ⟨w.heap.size + 1 + 1, 1, none⟩) (Nat.lt_succ_self _) (.slice A7 (qs.length + 1) c7))
              have HX8 := Lib.hid (HX7.out.setCell (p := ⟨w.heap.size + 1 + 1, 1, none⟩) (by show W.heap.size ≤ _; rw [HZ.out]; exact Nat.le_refl _) (.slice A7 (qs.length + 1) c7))
              clear hown7 hgr7 hbl7 hA pi hz0 hz1 hz2
              have hr := HR0.out.nx HX7.out
              have hf := HF0.out.nx HX7.out
              have r0 : w7.cell? ⟨w.heap.size, 0, none⟩ = some (.string (B [])) := hr.cell 0 _ rfl
              have r1 : w7.cell? ⟨w.heap.size, 1, none⟩ = some (.slice none 0 0) := hr.cell 1 _ rfl
              have r2 : w7.cell? ⟨w.heap.size, 2, none⟩ = some (.slice none 0 0) := hr.cell 2 _ rfl
              have f0 := hr.free 0
              have f1 := hr.free 1
              have f2 := hr.free 2
              have zr := hr.lt
              have s0 : w7.cell? ⟨w.heap.size + 1, 0, none⟩ = some (.int .i64 0) := hf.cell 0 _ rfl
              have s1 : w7.cell? ⟨w.heap.size + 1, 1, none⟩ = some (.int .i64 0) := hf.cell 1 _ rfl
              have s2 : w7.cell? ⟨w.heap.size + 1, 2, none⟩ = some (.int .i64 0) := hf.cell 2 _ rfl
              have g0 := hf.free 0
              have g1 := hf.free 1
              have g2 := hf.free 2
              have zf := hf.lt
              have HWB := Lib.hid (HWN.out.trans HX8.out)
              clear hr hf
              go_wp2
              refine bodyPost_ret (v := .tuple #[.agg #[.string (B nm0), .slice A7 (qs.length + 1) c7, .slice none 0 0], .agg #[.int .i64 0, .int .i64 0, .int .i64 0]]) (by simp [results, Tryd.results28, go_sem, r0, r1, r2, f0, f1, f2, s0, s1, s2, g0, g1, g2]) rfl ?_
              exact ⟨nm0, _, qs ++ [(⟨tx, false, []⟩, Value.slice none 0 0)], _, _, _, rfl, by repeat (with_reducible first | exact HWB.out | refine Nx.setCell ?_ (by first | exact Nat.le_refl _ | exact Nat.le_succ _) _), Or.inl ⟨HVE.out, rfl, rfl, rfl, OwnR.parsQ (base := w.heap.size + 1 + 1 + 1) (by repeat (with_reducible first | exact HO8.out | refine OwnR.set_ ?_ (by first | (show w.heap.size < _; omega) | (show w.heap.size + 1 < _; omega)) _))⟩⟩
            case pos =>
              have hd3 : decide ((i : Int) + 1 < l.length) = true := decide_eq_true (by omega)
              have hd4 : decide ((i : Int) + 1 ≥ l.length) = false := decide_eq_false (by omega)
              have h2I : (i : Int) + 1 < l.length := by omega
              have h20 : (0 : Int) ≤ (i : Int) + 1 := by omega
              obtain ⟨t2, ht2⟩ : ∃ t, l[i + 1]? = some t := ⟨_, List.getElem?_eq_getElem he⟩
              have hat2 := atT_in l (i + 1) he _ ht2
              have hp4 := HP3.out
              rw [hat2, if_pos he] at hp4
              have HP4 := Lib.hid hp4
              have HT2 := Lib.hid (fun w' (h : Nx w w') => (HTA.out.nx h).at_ (i + 1) _ ht2)
              clear hp4 hat2 ht2 HP3 HP2
              obtain ⟨c0, c1, c2, c3, c4, c5⟩ := HT2.out _ (HWN.out.trans HXr.out)
              obtain ⟨kd2, ln2, cl2, tx2, nm2, sc2⟩ := t2
              dsimp only at c0 c1 c2 c3 c4 c5
              have y2 := block_lt c0
              cases m2 : mkN [61] ⟨kd2, ln2, cl2, tx2, nm2, sc2⟩
              · have M2 := Lib.hid m2
                have HP5 := Lib.hid (show V = if mkN [44] ⟨kd2, ln2, cl2, tx2, nm2, sc2⟩ = true then parT l nm0 (i + 2) (qs.map (·.1) ++ [⟨tx, false, []⟩]) else badT l (i + 1) 5 from by
                  have h := HP4.out
                  rwa [if_neg (by rw [m2]; simp)] at h)
                clear m2 HP4
                go_wp2_with fail
                refine (markr_is ⟨kd2, ln2, cl2, tx2, nm2, sc2⟩ [61] false _ M2.out).mono ?_
                rintro e w6 ⟨rfl, hn6⟩
                have HX6 := Lib.hid ((HXr.out.alloc (.cells #[.string (B tx), .bool false, .slice none 0 0] 96)).trans hn6)
                have HM6 := Lib.hid ((HMr.out.alloc (.cells #[.string (B tx), .bool false, .slice none 0 0] 96)).nx hn6)
                have HO6 := Lib.hid ((HOr.out.nx ((Nx.refl wr).alloc (.cells #[.string (B tx), .bool false, .slice none 0 0] 96))).nx hn6)
                have HQ6 := Lib.hid ((Has.new wr (.cells #[.string (B tx), .bool false, .slice none 0 0] 96)).nx hn6)
                have p0 : w6.cell? ⟨wr.heap.size, 0, none⟩ = some (.string (B tx)) := HQ6.out.cell 0 _ rfl
                have p1 : w6.cell? ⟨wr.heap.size, 1, none⟩ = some (.bool false) := HQ6.out.cell 1 _ rfl
                have p2 : w6.cell? ⟨wr.heap.size, 2, none⟩ = some (.slice none 0 0) := HQ6.out.cell 2 _ rfl
                have zp := HQ6.out.lt
                have HTD := Lib.hid (Toks.nil w6)
                have HTB := Lib.hid (fun g (hg : (Value.slice none 0 0).ownBlock = some g) => (show w.heap.size + 1 + 1 + 1 ≤ g ∧ g < w6.heap.size ∧ (Value.slice Ap qs.length cp).ownBlock ≠ some g from by cases hg))
                clear hn6 c0 c1 c2 c3 c4 c5 y2 m1 zm b3 y3
                have m1 : w6.cell? ⟨w.heap.size + 1 + 1, 1, none⟩ = some (.slice Ap qs.length cp) := HM6.out.cell 1 _ rfl
                have zm := HM6.out.lt
                obtain ⟨pi, hz0, hz1, hz2⟩ := HI.out
                have hA := Lib.hid (HO6.out.1.alloc (.cells #[.string (B tx), .bool false, .slice none 0 0] 96))
                go_wp2_with (at_builtin; refine wpList_append_c _ rfl _ _ 47 rfl (w.heap.size + 1 + 1 + 1) 96 i0 _ 3 48 Tryd.underlying47 pi hz0 hz1 hz2 rfl (by decide) _ _ _ rfl hA.out (some ⟨w6.heap.size, 0, none⟩) 1 1 [.string (B tx), .bool false, .slice none 0 0] rfl rfl (Or.inr ⟨_, rfl, ?tb1n⟩) ?tb2n ?tb3n ?tb4n ?tb5n ?_)
                try (case tb1n => (have h := six_at w6 [.string (B tx), .bool false, .slice none 0 0] 96; first | exact h | simpa using h))
                case tb2n => simp [Value.oneCell']
                case tb3n => unfold maxLen; omega
                case tb4n => omega
                case tb5n => (have h6 := HX6.out.size; have h7 := HZ.out; simp at h6 ⊢; omega)
                intro v7 w7 hown7 hgr7 hbl7
                have HX7 := Lib.hid (show Nx W w7 from Below.grown (HX6.out.alloc _) hgr7 (by have h6 := HX6.out.size; simp at h6 ⊢; omega) (fun k hk => by have := (hA.out.lt k hk).1; have := HZ.out; omega))
                have HM7 := Lib.hid ((HM6.out.alloc (.cells #[.string (B tx), .bool false, .slice none 0 0] 96)).keep_grown hgr7 (fun e => by have := (hA.out.lt _ e).1; omega))
                have HO7 := Lib.hid (OwnR.push (q := (⟨tx, false, []⟩, Value.slice none 0 0)) (HO6.out.nx ((Nx.refl w6).alloc (.cells #[.string (B tx), .bool false, .slice none 0 0] 96))) (HTD.out.nx ((Nx.refl w6).alloc _)) (fun g hg => by have h := HTB.out g hg; exact ⟨h.1, by have h6 := h.2.1; simp at h6 ⊢; omega, h.2.2⟩) hgr7 (by simpa using hbl7) hown7)
                obtain ⟨A7, c7, he7⟩ := HO7.out.form
                rw [List.length_append, List.length_singleton] at he7
                subst he7
                have m0 : w7.cell? ⟨w.heap.size + 1 + 1, 0, none⟩ = some (.string (B nm0)) := HM7.out.cell 0 _ rfl
                have m1 : w7.cell? ⟨w.heap.size + 1 + 1, 1, none⟩ = some (.slice Ap qs.length cp) := HM7.out.cell 1 _ rfl
                have m2 : w7.cell? ⟨w.heap.size + 1 + 1, 2, none⟩ = some (.slice none 0 0) := HM7.out.cell 2 _ rfl
                have fm1 := HM7.out.free 1
                have zm := HM7.out.lt
                have HM8 := Lib.hid (show Has (w7.setCell ⟨w.heap.size + 1 + 1, 1, none⟩ (.slice A7 (qs.length + 1) c7)) (w.heap.size + 1 + 1) (.cells #[.string (B nm0), .slice A7 (qs.length + 1) c7, .slice none 0 0] 49) from HM7.out.put 1 (.slice A7 (qs.length + 1) c7))
                have HO8 := Lib.hid (HO7.out.set_ (p := ⟨w.heap.size + 1 + 1, 1, none⟩) (Nat.lt_succ_self _) (.slice A7 (qs.length + 1) c7))
                have HX8 := Lib.hid (HX7.out.setCell (p := ⟨w.heap.size + 1 + 1, 1, none⟩) (by show W.heap.size ≤ _; rw [HZ.out]; exact Nat.le_refl _) (.slice A7 (qs.length + 1) c7))
                clear hown7 hgr7 hbl7 hA pi hz0 hz1 hz2
                obtain ⟨c0, c1, c2, c3, c4, c5⟩ := HT2.out _ (HWN.out.trans HX7.out)
                (try dsimp only at c0 c1 c2 c3 c4 c5)
                have y2 := block_lt c0
                go_wp2_with fail
                cases m3 : mkN [44] ⟨kd2, ln2, cl2, tx2, nm2, sc2⟩
                · have HVB := Lib.hid (show V = badT l (i + 1) 5 from by have h := HP5.out; rwa [m3, if_neg (by simp)] at h)
                  refine (markr_is ⟨kd2, ln2, cl2, tx2, nm2, sc2⟩ [44] false _ m3).mono ?_
                  rintro e w9 ⟨rfl, hn9⟩
                  have HX9 := Lib.hid (HX8.out.trans hn9)
                  clear hn9 m0 m1 m2 fm1 zm c0 c1 c2 c3 c4 c5 y2 m3
                  go_wp2_with fail
                  have CB := rat_any _ l (i + 1) 5 _ (HT.out.nx (HWN.out.trans HX9.out)) HLL.out
                  rw [show ((i + 1 : Nat) : Int) = (i : Int) + 1 by omega] at CB
                  refine CB.mono ?_
                  rintro e wb ⟨rfl, hnb⟩
                  have HB := Lib.hid (HX9.out.trans hnb)
                  have HWB := Lib.hid (HWN.out.trans HB.out)
                  have hr := HR0.out.nx HB.out
                  have hf := HF0.out.nx HB.out
                  have r0 : wb.cell? ⟨w.heap.size, 0, none⟩ = some (.string (B [])) := hr.cell 0 _ rfl
                  have r1 : wb.cell? ⟨w.heap.size, 1, none⟩ = some (.slice none 0 0) := hr.cell 1 _ rfl
                  have r2 : wb.cell? ⟨w.heap.size, 2, none⟩ = some (.slice none 0 0) := hr.cell 2 _ rfl
                  have f0 := hr.free 0
                  have f1 := hr.free 1
                  have f2 := hr.free 2
                  have zr := hr.lt
                  have s0 : wb.cell? ⟨w.heap.size + 1, 0, none⟩ = some (.int .i64 0) := hf.cell 0 _ rfl
                  have s1 : wb.cell? ⟨w.heap.size + 1, 1, none⟩ = some (.int .i64 0) := hf.cell 1 _ rfl
                  have s2 : wb.cell? ⟨w.heap.size + 1, 2, none⟩ = some (.int .i64 0) := hf.cell 2 _ rfl
                  have g0 := hf.free 0
                  have g1 := hf.free 1
                  have g2 := hf.free 2
                  have zf := hf.lt
                  clear hnb hr hf
                  go_wp2
                  refine bodyPost_ret (v := .tuple #[.agg #[.string (B []), .slice none 0 0, .slice none 0 0], .agg #[.int .i64 (atT l (i + 1)).line, .int .i64 (atT l (i + 1)).col, .int .i64 5]]) (by simp [results, Tryd.results28, go_sem, r0, r1, r2, f0, f1, f2, s0, s1, s2, g0, g1, g2]) rfl ?_
                  exact ⟨[], _, [], _, _, _, rfl, by repeat (with_reducible first | exact HWB.out | refine Nx.setCell ?_ (by first | exact Nat.le_refl _ | exact Nat.le_succ _) _), Or.inr ⟨HVB.out, rfl, rfl, rfl⟩⟩
                · have HVM := Lib.hid (show parT l nm0 (i + 1 + 1) ((qs ++ [((⟨tx, false, []⟩ : PPar), Value.slice none 0 0)]).map (·.1)) = V from by have h := HP5.out; rw [m3, if_pos rfl] at h; rw [h, List.map_append]; rfl)
                  refine (markr_is ⟨kd2, ln2, cl2, tx2, nm2, sc2⟩ [44] true _ m3).mono ?_
                  rintro e w9 ⟨rfl, hn9⟩
                  have HX9 := Lib.hid (HX8.out.trans hn9)
                  have HM9 := Lib.hid (HM8.out.nx hn9)
                  have HO9 := Lib.hid (HO8.out.nx hn9)
                  clear hn9 m0 m1 m2 fm1 zm c0 c1 c2 c3 c4 c5 y2 m3
                  go_wp2
                  go_roundw
                  case rel => exact ⟨i + 1 + 1, _, _, by go_num, by omega, by omega, by rw [List.length_append, List.length_singleton]; omega, HX9.out, HM9.out, HO9.out, Or.inl ⟨Or.inl (by omega), HVM.out⟩⟩
                  case measure => simp [intOf]; omega
              · have hk := comN_le (l.drop (i + 2)) 0
                rw [List.length_drop] at hk
                have hca := comN_at (l.drop (i + 2)) 0
                have hp5 : V = if i + 2 + comN 0 (l.drop (i + 2)) < l.length then parT l nm0 (i + 2 + comN 0 (l.drop (i + 2)) + 1) (qs.map (·.1) ++ [⟨tx, true, (l.drop (i + 2)).take (comN 0 (l.drop (i + 2)))⟩]) else .ok nm0 (qs.map (·.1) ++ [⟨tx, true, (l.drop (i + 2)).take (comN 0 (l.drop (i + 2)))⟩]) := by
                  have h := HP4.out
                  rwa [if_pos ⟨he, m2⟩] at h
                have cp := fun w' (h : Nx w w') => comma_any _ l (i + 2) w' (HT.out.nx h) (by omega)
                obtain ⟨k, hkd⟩ : ∃ k, comN 0 (l.drop (i + 2)) = k := ⟨_, rfl⟩
                rw [hkd] at hk hca hp5 cp
                obtain ⟨m, hm⟩ : ∃ m, i + 2 + k = m := ⟨_, rfl⟩
                rw [hm] at hp5 cp
                have hkm : k = m - (i + 2) := by omega
                have hmid : ((l.take m).drop (i + 2)) = (l.drop (i + 2)).take k := by rw [List.drop_take, hkm]
                have hnm : i + 2 ≤ m := by omega
                have hml : m ≤ l.length := by omega
                have hlen : ((l.drop (i + 2)).take k).length = m - (i + 2) := by rw [List.length_take, List.length_drop]; omega
                have HLEN := Lib.hid hlen
                have HMID := Lib.hid hmid
                have HP5 := Lib.hid hp5
                have HCA := Lib.hid (show m < l.length → ∃ t, l[m]? = some t ∧ mkN [44] t = true from fun h => by
                  obtain ⟨t, h1, h2⟩ := hca (by rw [List.length_drop]; omega)
                  rw [List.getElem?_drop, hm] at h1
                  exact ⟨t, h1, h2⟩)
                have CP := Lib.hid (fun w' (h : Nx w w') => (show Calls Tryd.prog 51 #[.slice (some ⟨ga, oa, none⟩) l.length c, .int .i64 ((i : Int) + 1 + 1)] w' (fun e w'' => e = .returned (.int .i64 (m : Int)) ∧ Nx w' w'') from by
                  have h1 := cp w' h
                  rwa [show ((i + 2 : Nat) : Int) = (i : Int) + 1 + 1 by omega] at h1))
                have M2 := Lib.hid m2
                have mI : (m : Int) ≤ c := by omega
                have nI : (i : Int) + 1 + 1 ≤ m := by omega
                clear m2 hk hca hp5 cp hkd hm hkm hmid hlen HP4
                go_wp2_with fail
                refine (markr_is ⟨kd2, ln2, cl2, tx2, nm2, sc2⟩ [61] true _ M2.out).mono ?_
                rintro e w3 ⟨rfl, hn3⟩
                have KN3 := Lib.hid (((Nx.refl wr).alloc (.cells #[.string (B tx), .bool false, .slice none 0 0] 96)).trans hn3)
                have HQ3 := Lib.hid ((Has.new wr (.cells #[.string (B tx), .bool false, .slice none 0 0] 96)).nx hn3)
                clear hn3 c0 c1 c2 c3 c4 c5 y2 m1 zm b3 y3
                go_wp2_with fail
                refine (CP.out _ (HWN.out.trans (HXr.out.trans KN3.out))).mono ?_
                rintro e w4 ⟨rfl, hn4⟩
                have KN4 := Lib.hid (KN3.out.trans hn4)
                have HQ4 := Lib.hid (HQ3.out.nx hn4)
                clear hn4
                have p0 : w4.cell? ⟨wr.heap.size, 0, none⟩ = some (.string (B tx)) := HQ4.out.cell 0 _ rfl
                have p1 : w4.cell? ⟨wr.heap.size, 1, none⟩ = some (.bool false) := HQ4.out.cell 1 _ rfl
                have p2 : w4.cell? ⟨wr.heap.size, 2, none⟩ = some (.slice none 0 0) := HQ4.out.cell 2 _ rfl
                have f1 := HQ4.out.free 1
                have f2 := HQ4.out.free 2
                have zp := HQ4.out.lt
                have three : (c = i + 1 + 1 ∧ l.length ≤ m) ∨ (¬ c = i + 1 + 1 ∧ i + 1 + 1 < c ∧ l.length ≤ m) ∨ (¬ c = i + 1 + 1 ∧ i + 1 + 1 < c ∧ m < l.length) := by omega
                rcases three with ⟨rfl, hml3⟩ | ⟨hcn, hn3, hml3⟩ | ⟨hcn, hn3, hml3⟩
                · skip
                  have hm3 : m = i + 1 + 1 := by omega
                  have mI2 : (m : Int) ≤ (i : Int) + 1 + 1 := by omega
                  have hz : m - (i + 1 + 1) = 0 := by omega
                  have hts : Toks w (.slice (some ⟨ga, oa, none⟩) (m - (i + 1 + 1)) (i + 1 + 1 - (i + 1 + 1))) ((l.drop (i + 2)).take k) := by
                    rw [List.eq_nil_of_length_eq_zero (show ((l.drop (i + 2)).take k).length = 0 from HLEN.out.trans hz), hz, Nat.sub_self]; exact toks_empty _ _
                  clear hz hm3
                  have hW5 : Nx wr (w4.setCell ⟨wr.heap.size, 1, none⟩ (.bool true)) := KN4.out.setCell (p := ⟨wr.heap.size, 1, none⟩) (Nat.le_refl _) _
                  have hs0 := (toks_src (hts.nx ((HWN.out.trans (HXr.out.trans hW5)).alloc (.cells #[] 58)))).2.2.2
                  rw [show ((l.drop (i + 2)).take k).length = m - (i + 1 + 1) from HLEN.out] at hs0
                  have HS := Lib.hid hs0
                  have HW5 := Lib.hid hW5
                  have HM0 := Lib.hid (show OwnC ((w4.setCell ⟨wr.heap.size, 1, none⟩ (.bool true)).alloc (.cells #[] 58)) w4.heap.size 58 6 (.slice (some ⟨w4.heap.size, 0, none⟩) 0 0) 0 [] from by
                    have h := OwnC.made (w4.setCell ⟨wr.heap.size, 1, none⟩ (.bool true)) w4.heap.size 58 6 #[] 0 (by simp) (by unfold maxLen; omega) (by simp)
                    rw [show (w4.setCell ⟨wr.heap.size, 1, none⟩ (.bool true)).heap.size = w4.heap.size by simp] at h
                    exact h)
                  have HS1 := Lib.hid (show (toksC ((l.drop (i + 2)).take k)).length = (m - (i + 1 + 1)) * 6 from by rw [toksC_len, HLEN.out])
                  have HS2 := Lib.hid (toksC_one ((l.drop (i + 2)).take k))
                  have HQ5 := Lib.hid ((HQ4.out.put 1 (.bool true)).alloc (.cells #[] 58))
                  have hdm : decide ((m : Int) ≥ l.length) = true := decide_eq_true (by omega)
                  obtain ⟨hj, hj0, hj1, hj2⟩ := HJ.out
                  clear hs0 hts hW5
                  go_wp2_with (at_builtin; refine wpList_append_c _ rfl _ _ 37 rfl w4.heap.size 58 j0 _ 6 56 Tryd.underlying37 hj hj0 hj1 hj2 rfl (by decide) _ _ _ rfl HM0.out (some ⟨ga, oa, none⟩) (m - (i + 1 + 1)) (i + 1 + 1 - (i + 1 + 1)) (toksC ((l.drop (i + 2)).take k)) rfl HS1.out HS.out HS2.out ?tcb3n ?tcb4n ?tcb5n ?_)
                  case tcb3n => unfold maxLen; omega
                  case tcb4n => omega
                  case tcb5n => simp
                  intro v2 w2 hown2 hgr2 hbl2
                  have hown2 : OwnC w2 w4.heap.size 58 6 v2 (m - (i + 1 + 1)) (toksC ((l.drop (i + 2)).take k)) := by first | exact hown2 | (have := hown2; simp at this ⊢; exact this)
                  rw [← show ((l.drop (i + 2)).take k).length = m - (i + 1 + 1) from HLEN.out] at hown2
                  have K2 := Lib.hid (show Nx wr w2 from Below.grown (HW5.out.alloc _) hgr2 (by have := HW5.out.size; simp at this ⊢; omega) (fun k hk => by have := (HM0.out.lt k hk).1; have := KN4.out.size; omega))
                  have HTK := Lib.hid (own_fresh (Nat.le_refl _) hown2)
                  have HQ2 := Lib.hid (HQ5.out.keep_grown hgr2 (fun e => by have := (HM0.out.lt _ e).1; have := HQ4.out.lt; omega))
                  obtain ⟨A2, c2, rfl, _⟩ := HTK.out.1.form
                  rw [HLEN.out] at HTK
                  rw [HLEN.out]
                  have p2 : w2.cell? ⟨wr.heap.size, 2, none⟩ = some (.slice none 0 0) := HQ2.out.cell 2 _ rfl
                  have f2 := HQ2.out.free 2
                  have zp := HQ2.out.lt
                  clear hown2 hgr2 hbl2 p0 p1 f1
                  go_upto_region 22 with fail
                  obtain ⟨w6, hw6⟩ : ∃ w6, w2.setCell ⟨wr.heap.size, 2, none⟩ (.slice A2 (m - (i + 1 + 1)) c2) = w6 := ⟨_, rfl⟩
                  rw [hw6]
                  have K6 := Lib.hid (show Nx wr w6 from hw6 ▸ K2.out.setCell (p := ⟨wr.heap.size, 2, none⟩) (Nat.le_refl _) (.slice A2 (m - (i + 1 + 1)) c2))
                  have HQ6 := Lib.hid (show Has w6 wr.heap.size (.cells #[.string (B tx), .bool true, .slice A2 (m - (i + 1 + 1)) c2] 96) from hw6 ▸ HQ2.out.put 2 (.slice A2 (m - (i + 1 + 1)) c2))
                  have HTD := Lib.hid (show Toks w6 (.slice A2 (m - (i + 1 + 1)) c2) ((l.drop (i + 2)).take k) from by
                    rw [← hw6]
                    exact toks_block HTK.out.1 fun g hg => Below.heap_setCell w2 _ _ g (fun e => by have h1 := (HTK.out.2 g hg).1; have h2 := HQ4.out.lt; have h3 : g = wr.heap.size := e; omega))
                  have HTB := Lib.hid (fun g (hg : (Value.slice A2 (m - (i + 1 + 1)) c2).ownBlock = some g) => (show w.heap.size + 1 + 1 + 1 ≤ g ∧ g < w6.heap.size ∧ (Value.slice Ap qs.length cp).ownBlock ≠ some g from by
                    have h1 := HTK.out.2 g hg
                    have h2 := HQ4.out.lt
                    have h3 : w6.heap.size = w2.heap.size := by rw [← hw6]; simp
                    have h4 := HMr.out.lt
                    refine ⟨by omega, by omega, fun e => ?_⟩
                    have := (HOr.out.1.lt g e).2
                    omega))
                  have HX6 := Lib.hid (HXr.out.trans K6.out)
                  have HM6 := Lib.hid (HMr.out.nx K6.out)
                  have HO6 := Lib.hid (HOr.out.nx K6.out)
                  clear hw6 p2 f2 zp HQ2 HTK K2 HM0 HS HS1 HS2 HQ5 HW5 HQ4 HQ3
                  have p0 : w6.cell? ⟨wr.heap.size, 0, none⟩ = some (.string (B tx)) := HQ6.out.cell 0 _ rfl
                  have p1 : w6.cell? ⟨wr.heap.size, 1, none⟩ = some (.bool true) := HQ6.out.cell 1 _ rfl
                  have p2 : w6.cell? ⟨wr.heap.size, 2, none⟩ = some (.slice A2 (m - (i + 1 + 1)) c2) := HQ6.out.cell 2 _ rfl
                  have zp := HQ6.out.lt
                  have m1 : w6.cell? ⟨w.heap.size + 1 + 1, 1, none⟩ = some (.slice Ap qs.length cp) := HM6.out.cell 1 _ rfl
                  have zm := HM6.out.lt
                  have HVE := Lib.hid (show V = .ok nm0 ((qs ++ [((⟨tx, true, ((l.drop (i + 2)).take k)⟩ : PPar), Value.slice A2 (m - (i + 1 + 1)) c2)]).map (·.1)) from by
                    have h := HP5.out
                    rw [if_neg (by omega)] at h
                    rw [h, List.map_append]; rfl)
                  obtain ⟨pi, hz0, hz1, hz2⟩ := HI.out
                  have hA := Lib.hid (HO6.out.1.alloc (.cells #[.string (B tx), .bool true, .slice A2 (m - (i + 1 + 1)) c2] 96))
                  go_wp2_with (at_builtin; refine wpList_append_c _ rfl _ _ 47 rfl (w.heap.size + 1 + 1 + 1) 96 i0 _ 3 48 Tryd.underlying47 pi hz0 hz1 hz2 rfl (by decide) _ _ _ rfl hA.out (some ⟨w6.heap.size, 0, none⟩) 1 1 [.string (B tx), .bool true, .slice A2 (m - (i + 1 + 1)) c2] rfl rfl (Or.inr ⟨_, rfl, ?uc1n⟩) ?uc2n ?uc3n ?uc4n ?uc5n ?_)
                  try (case uc1n => (have h := six_at w6 [.string (B tx), .bool true, .slice A2 (m - (i + 1 + 1)) c2] 96; first | exact h | simpa using h))
                  case uc2n => simp [Value.oneCell']
                  case uc3n => unfold maxLen; omega
                  case uc4n => omega
                  case uc5n => (have h6 := HX6.out.size; have h7 := HZ.out; simp at h6 ⊢; omega)
                  intro v7 w7 hown7 hgr7 hbl7
                  have HX7 := Lib.hid (show Nx W w7 from Below.grown (HX6.out.alloc _) hgr7 (by have h6 := HX6.out.size; simp at h6 ⊢; omega) (fun k hk => by have := (hA.out.lt k hk).1; have := HZ.out; omega))
                  have HM7 := Lib.hid ((HM6.out.alloc (.cells #[.string (B tx), .bool true, .slice A2 (m - (i + 1 + 1)) c2] 96)).keep_grown hgr7 (fun e => by have := (hA.out.lt _ e).1; omega))
                  have HO7 := Lib.hid (OwnR.push (q := (⟨tx, true, ((l.drop (i + 2)).take k)⟩, Value.slice A2 (m - (i + 1 + 1)) c2)) (HO6.out.nx ((Nx.refl w6).alloc (.cells #[.string (B tx), .bool true, .slice A2 (m - (i + 1 + 1)) c2] 96))) (HTD.out.nx ((Nx.refl w6).alloc _)) (fun g hg => by have h := HTB.out g hg; exact ⟨h.1, by have h6 := h.2.1; simp at h6 ⊢; omega, h.2.2⟩) hgr7 (by simpa using hbl7) hown7)
                  obtain ⟨A7, c7, he7⟩ := HO7.out.form
                  rw [List.length_append, List.length_singleton] at he7
                  subst he7
                  have m0 : w7.cell? ⟨w.heap.size + 1 + 1, 0, none⟩ = some (.string (B nm0)) := HM7.out.cell 0 _ rfl
                  have m1 : w7.cell? ⟨w.heap.size + 1 + 1, 1, none⟩ = some (.slice Ap qs.length cp) := HM7.out.cell 1 _ rfl
                  have m2 : w7.cell? ⟨w.heap.size + 1 + 1, 2, none⟩ = some (.slice none 0 0) := HM7.out.cell 2 _ rfl
                  have fm1 := HM7.out.free 1
                  have zm := HM7.out.lt
                  have HM8 := Lib.hid (show Has (w7.setCell ⟨w.heap.size + 1 + 1, 1, none⟩ (.slice A7 (qs.length + 1) c7)) (w.heap.size + 1 + 1) (.cells #[.string (B nm0), .slice A7 (qs.length + 1) c7, .slice none 0 0] 49) from HM7.out.put 1 (.slice A7 (qs.length + 1) c7))
                  have HO8 := Lib.hid (HO7.out.set_ (p := ⟨w.heap.size + 1 + 1, 1, none⟩) (Nat.lt_succ_self _) (.slice A7 (qs.length + 1) c7))
                  have HX8 := Lib.hid (HX7.out.setCell (p := ⟨w.heap.size + 1 + 1, 1, none⟩) (by show W.heap.size ≤ _; rw [HZ.out]; exact Nat.le_refl _) (.slice A7 (qs.length + 1) c7))
                  clear hown7 hgr7 hbl7 hA pi hz0 hz1 hz2
                  have hr := HR0.out.nx HX7.out
                  have hf := HF0.out.nx HX7.out
                  have r0 : w7.cell? ⟨w.heap.size, 0, none⟩ = some (.string (B [])) := hr.cell 0 _ rfl
                  have r1 : w7.cell? ⟨w.heap.size, 1, none⟩ = some (.slice none 0 0) := hr.cell 1 _ rfl
                  have r2 : w7.cell? ⟨w.heap.size, 2, none⟩ = some (.slice none 0 0) := hr.cell 2 _ rfl
                  have f0 := hr.free 0
                  have f1 := hr.free 1
                  have f2 := hr.free 2
                  have zr := hr.lt
                  have s0 : w7.cell? ⟨w.heap.size + 1, 0, none⟩ = some (.int .i64 0) := hf.cell 0 _ rfl
                  have s1 : w7.cell? ⟨w.heap.size + 1, 1, none⟩ = some (.int .i64 0) := hf.cell 1 _ rfl
                  have s2 : w7.cell? ⟨w.heap.size + 1, 2, none⟩ = some (.int .i64 0) := hf.cell 2 _ rfl
                  have g0 := hf.free 0
                  have g1 := hf.free 1
                  have g2 := hf.free 2
                  have zf := hf.lt
                  have HWB := Lib.hid (HWN.out.trans HX8.out)
                  clear hr hf
                  go_wp2
                  refine bodyPost_ret (v := .tuple #[.agg #[.string (B nm0), .slice A7 (qs.length + 1) c7, .slice none 0 0], .agg #[.int .i64 0, .int .i64 0, .int .i64 0]]) (by simp [results, Tryd.results28, go_sem, r0, r1, r2, f0, f1, f2, s0, s1, s2, g0, g1, g2]) rfl ?_
                  exact ⟨nm0, _, qs ++ [(⟨tx, true, ((l.drop (i + 2)).take k)⟩, Value.slice A2 (m - (i + 1 + 1)) c2)], _, _, _, rfl, by repeat (with_reducible first | exact HWB.out | refine Nx.setCell ?_ (by first | exact Nat.le_refl _ | exact Nat.le_succ _) _), Or.inl ⟨HVE.out, rfl, rfl, rfl, OwnR.parsQ (base := w.heap.size + 1 + 1 + 1) (by repeat (with_reducible first | exact HO8.out | refine OwnR.set_ ?_ (by first | (show w.heap.size < _; omega) | (show w.heap.size + 1 < _; omega)) _))⟩⟩
                · skip
                  have hts : Toks w (.slice (some ⟨ga, oa + (i + 1 + 1) * 6, none⟩) (m - (i + 1 + 1)) (c - (i + 1 + 1))) ((l.drop (i + 2)).take k) := by have h1 := toks_mid HT.out (i + 2) m hnm hml; rw [HMID.out] at h1; exact h1
                  have hW5 : Nx wr (w4.setCell ⟨wr.heap.size, 1, none⟩ (.bool true)) := KN4.out.setCell (p := ⟨wr.heap.size, 1, none⟩) (Nat.le_refl _) _
                  have hs0 := (toks_src (hts.nx ((HWN.out.trans (HXr.out.trans hW5)).alloc (.cells #[] 58)))).2.2.2
                  rw [show ((l.drop (i + 2)).take k).length = m - (i + 1 + 1) from HLEN.out] at hs0
                  have HS := Lib.hid hs0
                  have HW5 := Lib.hid hW5
                  have HM0 := Lib.hid (show OwnC ((w4.setCell ⟨wr.heap.size, 1, none⟩ (.bool true)).alloc (.cells #[] 58)) w4.heap.size 58 6 (.slice (some ⟨w4.heap.size, 0, none⟩) 0 0) 0 [] from by
                    have h := OwnC.made (w4.setCell ⟨wr.heap.size, 1, none⟩ (.bool true)) w4.heap.size 58 6 #[] 0 (by simp) (by unfold maxLen; omega) (by simp)
                    rw [show (w4.setCell ⟨wr.heap.size, 1, none⟩ (.bool true)).heap.size = w4.heap.size by simp] at h
                    exact h)
                  have HS1 := Lib.hid (show (toksC ((l.drop (i + 2)).take k)).length = (m - (i + 1 + 1)) * 6 from by rw [toksC_len, HLEN.out])
                  have HS2 := Lib.hid (toksC_one ((l.drop (i + 2)).take k))
                  have HQ5 := Lib.hid ((HQ4.out.put 1 (.bool true)).alloc (.cells #[] 58))
                  have hdm : decide ((m : Int) ≥ l.length) = true := decide_eq_true (by omega)
                  obtain ⟨hj, hj0, hj1, hj2⟩ := HJ.out
                  clear hs0 hts hW5
                  go_wp2_with (at_builtin; refine wpList_append_c _ rfl _ _ 37 rfl w4.heap.size 58 j0 _ 6 56 Tryd.underlying37 hj hj0 hj1 hj2 rfl (by decide) _ _ _ rfl HM0.out (some ⟨ga, oa + (i + 1 + 1) * 6, none⟩) (m - (i + 1 + 1)) (c - (i + 1 + 1)) (toksC ((l.drop (i + 2)).take k)) rfl HS1.out HS.out HS2.out ?tdb3n ?tdb4n ?tdb5n ?_)
                  case tdb3n => unfold maxLen; omega
                  case tdb4n => omega
                  case tdb5n => simp
                  intro v2 w2 hown2 hgr2 hbl2
                  have hown2 : OwnC w2 w4.heap.size 58 6 v2 (m - (i + 1 + 1)) (toksC ((l.drop (i + 2)).take k)) := by first | exact hown2 | (have := hown2; simp at this ⊢; exact this)
                  rw [← show ((l.drop (i + 2)).take k).length = m - (i + 1 + 1) from HLEN.out] at hown2
                  have K2 := Lib.hid (show Nx wr w2 from Below.grown (HW5.out.alloc _) hgr2 (by have := HW5.out.size; simp at this ⊢; omega) (fun k hk => by have := (HM0.out.lt k hk).1; have := KN4.out.size; omega))
                  have HTK := Lib.hid (own_fresh (Nat.le_refl _) hown2)
                  have HQ2 := Lib.hid (HQ5.out.keep_grown hgr2 (fun e => by have := (HM0.out.lt _ e).1; have := HQ4.out.lt; omega))
                  obtain ⟨A2, c2, rfl, _⟩ := HTK.out.1.form
                  rw [HLEN.out] at HTK
                  rw [HLEN.out]
                  have p2 : w2.cell? ⟨wr.heap.size, 2, none⟩ = some (.slice none 0 0) := HQ2.out.cell 2 _ rfl
                  have f2 := HQ2.out.free 2
                  have zp := HQ2.out.lt
                  clear hown2 hgr2 hbl2 p0 p1 f1
                  go_upto_region 22 with fail
                  obtain ⟨w6, hw6⟩ : ∃ w6, w2.setCell ⟨wr.heap.size, 2, none⟩ (.slice A2 (m - (i + 1 + 1)) c2) = w6 := ⟨_, rfl⟩
                  rw [hw6]
                  have K6 := Lib.hid (show Nx wr w6 from hw6 ▸ K2.out.setCell (p := ⟨wr.heap.size, 2, none⟩) (Nat.le_refl _) (.slice A2 (m - (i + 1 + 1)) c2))
                  have HQ6 := Lib.hid (show Has w6 wr.heap.size (.cells #[.string (B tx), .bool true, .slice A2 (m - (i + 1 + 1)) c2] 96) from hw6 ▸ HQ2.out.put 2 (.slice A2 (m - (i + 1 + 1)) c2))
                  have HTD := Lib.hid (show Toks w6 (.slice A2 (m - (i + 1 + 1)) c2) ((l.drop (i + 2)).take k) from by
                    rw [← hw6]
                    exact toks_block HTK.out.1 fun g hg => Below.heap_setCell w2 _ _ g (fun e => by have h1 := (HTK.out.2 g hg).1; have h2 := HQ4.out.lt; have h3 : g = wr.heap.size := e; omega))
                  have HTB := Lib.hid (fun g (hg : (Value.slice A2 (m - (i + 1 + 1)) c2).ownBlock = some g) => (show w.heap.size + 1 + 1 + 1 ≤ g ∧ g < w6.heap.size ∧ (Value.slice Ap qs.length cp).ownBlock ≠ some g from by
                    have h1 := HTK.out.2 g hg
                    have h2 := HQ4.out.lt
                    have h3 : w6.heap.size = w2.heap.size := by rw [← hw6]; simp
                    have h4 := HMr.out.lt
                    refine ⟨by omega, by omega, fun e => ?_⟩
                    have := (HOr.out.1.lt g e).2
                    omega))
                  have HX6 := Lib.hid (HXr.out.trans K6.out)
                  have HM6 := Lib.hid (HMr.out.nx K6.out)
                  have HO6 := Lib.hid (HOr.out.nx K6.out)
                  clear hw6 p2 f2 zp HQ2 HTK K2 HM0 HS HS1 HS2 HQ5 HW5 HQ4 HQ3
                  have p0 : w6.cell? ⟨wr.heap.size, 0, none⟩ = some (.string (B tx)) := HQ6.out.cell 0 _ rfl
                  have p1 : w6.cell? ⟨wr.heap.size, 1, none⟩ = some (.bool true) := HQ6.out.cell 1 _ rfl
                  have p2 : w6.cell? ⟨wr.heap.size, 2, none⟩ = some (.slice A2 (m - (i + 1 + 1)) c2) := HQ6.out.cell 2 _ rfl
                  have zp := HQ6.out.lt
                  have m1 : w6.cell? ⟨w.heap.size + 1 + 1, 1, none⟩ = some (.slice Ap qs.length cp) := HM6.out.cell 1 _ rfl
                  have zm := HM6.out.lt
                  have HVE := Lib.hid (show V = .ok nm0 ((qs ++ [((⟨tx, true, ((l.drop (i + 2)).take k)⟩ : PPar), Value.slice A2 (m - (i + 1 + 1)) c2)]).map (·.1)) from by
                    have h := HP5.out
                    rw [if_neg (by omega)] at h
                    rw [h, List.map_append]; rfl)
                  obtain ⟨pi, hz0, hz1, hz2⟩ := HI.out
                  have hA := Lib.hid (HO6.out.1.alloc (.cells #[.string (B tx), .bool true, .slice A2 (m - (i + 1 + 1)) c2] 96))
                  go_wp2_with (at_builtin; refine wpList_append_c _ rfl _ _ 47 rfl (w.heap.size + 1 + 1 + 1) 96 i0 _ 3 48 Tryd.underlying47 pi hz0 hz1 hz2 rfl (by decide) _ _ _ rfl hA.out (some ⟨w6.heap.size, 0, none⟩) 1 1 [.string (B tx), .bool true, .slice A2 (m - (i + 1 + 1)) c2] rfl rfl (Or.inr ⟨_, rfl, ?ud1n⟩) ?ud2n ?ud3n ?ud4n ?ud5n ?_)
                  try (case ud1n => (have h := six_at w6 [.string (B tx), .bool true, .slice A2 (m - (i + 1 + 1)) c2] 96; first | exact h | simpa using h))
                  case ud2n => simp [Value.oneCell']
                  case ud3n => unfold maxLen; omega
                  case ud4n => omega
                  case ud5n => (have h6 := HX6.out.size; have h7 := HZ.out; simp at h6 ⊢; omega)
                  intro v7 w7 hown7 hgr7 hbl7
                  have HX7 := Lib.hid (show Nx W w7 from Below.grown (HX6.out.alloc _) hgr7 (by have h6 := HX6.out.size; simp at h6 ⊢; omega) (fun k hk => by have := (hA.out.lt k hk).1; have := HZ.out; omega))
                  have HM7 := Lib.hid ((HM6.out.alloc (.cells #[.string (B tx), .bool true, .slice A2 (m - (i + 1 + 1)) c2] 96)).keep_grown hgr7 (fun e => by have := (hA.out.lt _ e).1; omega))
                  have HO7 := Lib.hid (OwnR.push (q := (⟨tx, true, ((l.drop (i + 2)).take k)⟩, Value.slice A2 (m - (i + 1 + 1)) c2)) (HO6.out.nx ((Nx.refl w6).alloc (.cells #[.string (B tx), .bool true, .slice A2 (m - (i + 1 + 1)) c2] 96))) (HTD.out.nx ((Nx.refl w6).alloc _)) (fun g hg => by have h := HTB.out g hg; exact ⟨h.1, by have h6 := h.2.1; simp at h6 ⊢; omega, h.2.2⟩) hgr7 (by simpa using hbl7) hown7)
                  obtain ⟨A7, c7, he7⟩ := HO7.out.form
                  rw [List.length_append, List.length_singleton] at he7
                  subst he7
                  have m0 : w7.cell? ⟨w.heap.size + 1 + 1, 0, none⟩ = some (.string (B nm0)) := HM7.out.cell 0 _ rfl
                  have m1 : w7.cell? ⟨w.heap.size + 1 + 1, 1, none⟩ = some (.slice Ap qs.length cp) := HM7.out.cell 1 _ rfl
                  have m2 : w7.cell? ⟨w.heap.size + 1 + 1, 2, none⟩ = some (.slice none 0 0) := HM7.out.cell 2 _ rfl
                  have fm1 := HM7.out.free 1
                  have zm := HM7.out.lt
                  have HM8 := Lib.hid (show Has (w7.setCell ⟨w.heap.size + 1 + 1, 1, none⟩ (.slice A7 (qs.length + 1) c7)) (w.heap.size + 1 + 1) (.cells #[.string (B nm0), .slice A7 (qs.length + 1) c7, .slice none 0 0] 49) from HM7.out.put 1 (.slice A7 (qs.length + 1) c7))
                  have HO8 := Lib.hid (HO7.out.set_ (p := ⟨w.heap.size + 1 + 1, 1, none⟩) (Nat.lt_succ_self _) (.slice A7 (qs.length + 1) c7))
                  have HX8 := Lib.hid (HX7.out.setCell (p := ⟨w.heap.size + 1 + 1, 1, none⟩) (by show W.heap.size ≤ _; rw [HZ.out]; exact Nat.le_refl _) (.slice A7 (qs.length + 1) c7))
                  clear hown7 hgr7 hbl7 hA pi hz0 hz1 hz2
                  have hr := HR0.out.nx HX7.out
                  have hf := HF0.out.nx HX7.out
                  have r0 : w7.cell? ⟨w.heap.size, 0, none⟩ = some (.string (B [])) := hr.cell 0 _ rfl
                  have r1 : w7.cell? ⟨w.heap.size, 1, none⟩ = some (.slice none 0 0) := hr.cell 1 _ rfl
                  have r2 : w7.cell? ⟨w.heap.size, 2, none⟩ = some (.slice none 0 0) := hr.cell 2 _ rfl
                  have f0 := hr.free 0
                  have f1 := hr.free 1
                  have f2 := hr.free 2
                  have zr := hr.lt
                  have s0 : w7.cell? ⟨w.heap.size + 1, 0, none⟩ = some (.int .i64 0) := hf.cell 0 _ rfl
                  have s1 : w7.cell? ⟨w.heap.size + 1, 1, none⟩ = some (.int .i64 0) := hf.cell 1 _ rfl
                  have s2 : w7.cell? ⟨w.heap.size + 1, 2, none⟩ = some (.int .i64 0) := hf.cell 2 _ rfl
                  have g0 := hf.free 0
                  have g1 := hf.free 1
                  have g2 := hf.free 2
                  have zf := hf.lt
                  have HWB := Lib.hid (HWN.out.trans HX8.out)
                  clear hr hf
                  go_wp2
                  refine bodyPost_ret (v := .tuple #[.agg #[.string (B nm0), .slice A7 (qs.length + 1) c7, .slice none 0 0], .agg #[.int .i64 0, .int .i64 0, .int .i64 0]]) (by simp [results, Tryd.results28, go_sem, r0, r1, r2, f0, f1, f2, s0, s1, s2, g0, g1, g2]) rfl ?_
                  exact ⟨nm0, _, qs ++ [(⟨tx, true, ((l.drop (i + 2)).take k)⟩, Value.slice A2 (m - (i + 1 + 1)) c2)], _, _, _, rfl, by repeat (with_reducible first | exact HWB.out | refine Nx.setCell ?_ (by first | exact Nat.le_refl _ | exact Nat.le_succ _) _), Or.inl ⟨HVE.out, rfl, rfl, rfl, OwnR.parsQ (base := w.heap.size + 1 + 1 + 1) (by repeat (with_reducible first | exact HO8.out | refine OwnR.set_ ?_ (by first | (show w.heap.size < _; omega) | (show w.heap.size + 1 < _; omega)) _))⟩⟩
                · skip
                  have hts : Toks w (.slice (some ⟨ga, oa + (i + 1 + 1) * 6, none⟩) (m - (i + 1 + 1)) (c - (i + 1 + 1))) ((l.drop (i + 2)).take k) := by have h1 := toks_mid HT.out (i + 2) m hnm hml; rw [HMID.out] at h1; exact h1
                  have hW5 : Nx wr (w4.setCell ⟨wr.heap.size, 1, none⟩ (.bool true)) := KN4.out.setCell (p := ⟨wr.heap.size, 1, none⟩) (Nat.le_refl _) _
                  have hs0 := (toks_src (hts.nx ((HWN.out.trans (HXr.out.trans hW5)).alloc (.cells #[] 58)))).2.2.2
                  rw [show ((l.drop (i + 2)).take k).length = m - (i + 1 + 1) from HLEN.out] at hs0
                  have HS := Lib.hid hs0
                  have HW5 := Lib.hid hW5
                  have HM0 := Lib.hid (show OwnC ((w4.setCell ⟨wr.heap.size, 1, none⟩ (.bool true)).alloc (.cells #[] 58)) w4.heap.size 58 6 (.slice (some ⟨w4.heap.size, 0, none⟩) 0 0) 0 [] from by
                    have h := OwnC.made (w4.setCell ⟨wr.heap.size, 1, none⟩ (.bool true)) w4.heap.size 58 6 #[] 0 (by simp) (by unfold maxLen; omega) (by simp)
                    rw [show (w4.setCell ⟨wr.heap.size, 1, none⟩ (.bool true)).heap.size = w4.heap.size by simp] at h
                    exact h)
                  have HS1 := Lib.hid (show (toksC ((l.drop (i + 2)).take k)).length = (m - (i + 1 + 1)) * 6 from by rw [toksC_len, HLEN.out])
                  have HS2 := Lib.hid (toksC_one ((l.drop (i + 2)).take k))
                  have HQ5 := Lib.hid ((HQ4.out.put 1 (.bool true)).alloc (.cells #[] 58))
                  have hdm : decide ((m : Int) ≥ l.length) = false := decide_eq_false (by omega)
                  obtain ⟨hj, hj0, hj1, hj2⟩ := HJ.out
                  clear hs0 hts hW5
                  go_wp2_with (at_builtin; refine wpList_append_c _ rfl _ _ 37 rfl w4.heap.size 58 j0 _ 6 56 Tryd.underlying37 hj hj0 hj1 hj2 rfl (by decide) _ _ _ rfl HM0.out (some ⟨ga, oa + (i + 1 + 1) * 6, none⟩) (m - (i + 1 + 1)) (c - (i + 1 + 1)) (toksC ((l.drop (i + 2)).take k)) rfl HS1.out HS.out HS2.out ?teb3n ?teb4n ?teb5n ?_)
                  case teb3n => unfold maxLen; omega
                  case teb4n => omega
                  case teb5n => simp
                  intro v2 w2 hown2 hgr2 hbl2
                  have hown2 : OwnC w2 w4.heap.size 58 6 v2 (m - (i + 1 + 1)) (toksC ((l.drop (i + 2)).take k)) := by first | exact hown2 | (have := hown2; simp at this ⊢; exact this)
                  rw [← show ((l.drop (i + 2)).take k).length = m - (i + 1 + 1) from HLEN.out] at hown2
                  have K2 := Lib.hid (show Nx wr w2 from Below.grown (HW5.out.alloc _) hgr2 (by have := HW5.out.size; simp at this ⊢; omega) (fun k hk => by have := (HM0.out.lt k hk).1; have := KN4.out.size; omega))
                  have HTK := Lib.hid (own_fresh (Nat.le_refl _) hown2)
                  have HQ2 := Lib.hid (HQ5.out.keep_grown hgr2 (fun e => by have := (HM0.out.lt _ e).1; have := HQ4.out.lt; omega))
                  obtain ⟨A2, c2, rfl, _⟩ := HTK.out.1.form
                  rw [HLEN.out] at HTK
                  rw [HLEN.out]
                  have p2 : w2.cell? ⟨wr.heap.size, 2, none⟩ = some (.slice none 0 0) := HQ2.out.cell 2 _ rfl
                  have f2 := HQ2.out.free 2
                  have zp := HQ2.out.lt
                  clear hown2 hgr2 hbl2 p0 p1 f1
                  go_upto_region 22 with fail
                  obtain ⟨w6, hw6⟩ : ∃ w6, w2.setCell ⟨wr.heap.size, 2, none⟩ (.slice A2 (m - (i + 1 + 1)) c2) = w6 := ⟨_, rfl⟩
                  rw [hw6]
                  have K6 := Lib.hid (show Nx wr w6 from hw6 ▸ K2.out.setCell (p := ⟨wr.heap.size, 2, none⟩) (Nat.le_refl _) (.slice A2 (m - (i + 1 + 1)) c2))
                  have HQ6 := Lib.hid (show Has w6 wr.heap.size (.cells #[.string (B tx), .bool true, .slice A2 (m - (i + 1 + 1)) c2] 96) from hw6 ▸ HQ2.out.put 2 (.slice A2 (m - (i + 1 + 1)) c2))
                  have HTD := Lib.hid (show Toks w6 (.slice A2 (m - (i + 1 + 1)) c2) ((l.drop (i + 2)).take k) from by
                    rw [← hw6]
                    exact toks_block HTK.out.1 fun g hg => Below.heap_setCell w2 _ _ g (fun e => by have h1 := (HTK.out.2 g hg).1; have h2 := HQ4.out.lt; have h3 : g = wr.heap.size := e; omega))
                  have HTB := Lib.hid (fun g (hg : (Value.slice A2 (m - (i + 1 + 1)) c2).ownBlock = some g) => (show w.heap.size + 1 + 1 + 1 ≤ g ∧ g < w6.heap.size ∧ (Value.slice Ap qs.length cp).ownBlock ≠ some g from by
                    have h1 := HTK.out.2 g hg
                    have h2 := HQ4.out.lt
                    have h3 : w6.heap.size = w2.heap.size := by rw [← hw6]; simp
                    have h4 := HMr.out.lt
                    refine ⟨by omega, by omega, fun e => ?_⟩
                    have := (HOr.out.1.lt g e).2
                    omega))
                  have HX6 := Lib.hid (HXr.out.trans K6.out)
                  have HM6 := Lib.hid (HMr.out.nx K6.out)
                  have HO6 := Lib.hid (HOr.out.nx K6.out)
                  clear hw6 p2 f2 zp HQ2 HTK K2 HM0 HS HS1 HS2 HQ5 HW5 HQ4 HQ3
                  have p0 : w6.cell? ⟨wr.heap.size, 0, none⟩ = some (.string (B tx)) := HQ6.out.cell 0 _ rfl
                  have p1 : w6.cell? ⟨wr.heap.size, 1, none⟩ = some (.bool true) := HQ6.out.cell 1 _ rfl
                  have p2 : w6.cell? ⟨wr.heap.size, 2, none⟩ = some (.slice A2 (m - (i + 1 + 1)) c2) := HQ6.out.cell 2 _ rfl
                  have zp := HQ6.out.lt
                  have m1 : w6.cell? ⟨w.heap.size + 1 + 1, 1, none⟩ = some (.slice Ap qs.length cp) := HM6.out.cell 1 _ rfl
                  have zm := HM6.out.lt
                  have HVM := Lib.hid (show parT l nm0 (m + 1) ((qs ++ [((⟨tx, true, ((l.drop (i + 2)).take k)⟩ : PPar), Value.slice A2 (m - (i + 1 + 1)) c2)]).map (·.1)) = V from by
                    have h := HP5.out
                    rw [if_pos (by omega)] at h
                    rw [h, List.map_append]; rfl)
                  obtain ⟨⟨kd3, ln3, cl3, tx3, nm3, sc3⟩, ht3, hm3⟩ := HCA.out hml3
                  have HMK := Lib.hid hm3
                  have HT3 := Lib.hid (fun w' (h : Nx w w') => (HTA.out.nx h).at_ m _ ht3)
                  have hmI : (m : Int) < l.length := by omega
                  clear ht3 hm3
                  obtain ⟨pi, hz0, hz1, hz2⟩ := HI.out
                  have hA := Lib.hid (HO6.out.1.alloc (.cells #[.string (B tx), .bool true, .slice A2 (m - (i + 1 + 1)) c2] 96))
                  go_wp2_with (at_builtin; refine wpList_append_c _ rfl _ _ 47 rfl (w.heap.size + 1 + 1 + 1) 96 i0 _ 3 48 Tryd.underlying47 pi hz0 hz1 hz2 rfl (by decide) _ _ _ rfl hA.out (some ⟨w6.heap.size, 0, none⟩) 1 1 [.string (B tx), .bool true, .slice A2 (m - (i + 1 + 1)) c2] rfl rfl (Or.inr ⟨_, rfl, ?ue1n⟩) ?ue2n ?ue3n ?ue4n ?ue5n ?_)
                  try (case ue1n => (have h := six_at w6 [.string (B tx), .bool true, .slice A2 (m - (i + 1 + 1)) c2] 96; first | exact h | simpa using h))
                  case ue2n => simp [Value.oneCell']
                  case ue3n => unfold maxLen; omega
                  case ue4n => omega
                  case ue5n => (have h6 := HX6.out.size; have h7 := HZ.out; simp at h6 ⊢; omega)
                  intro v7 w7 hown7 hgr7 hbl7
                  have HX7 := Lib.hid (show Nx W w7 from Below.grown (HX6.out.alloc _) hgr7 (by have h6 := HX6.out.size; simp at h6 ⊢; omega) (fun k hk => by have := (hA.out.lt k hk).1; have := HZ.out; omega))
                  have HM7 := Lib.hid ((HM6.out.alloc (.cells #[.string (B tx), .bool true, .slice A2 (m - (i + 1 + 1)) c2] 96)).keep_grown hgr7 (fun e => by have := (hA.out.lt _ e).1; omega))
                  have HO7 := Lib.hid (OwnR.push (q := (⟨tx, true, ((l.drop (i + 2)).take k)⟩, Value.slice A2 (m - (i + 1 + 1)) c2)) (HO6.out.nx ((Nx.refl w6).alloc (.cells #[.string (B tx), .bool true, .slice A2 (m - (i + 1 + 1)) c2] 96))) (HTD.out.nx ((Nx.refl w6).alloc _)) (fun g hg => by have h := HTB.out g hg; exact ⟨h.1, by have h6 := h.2.1; simp at h6 ⊢; omega, h.2.2⟩) hgr7 (by simpa using hbl7) hown7)
                  obtain ⟨A7, c7, he7⟩ := HO7.out.form
                  rw [List.length_append, List.length_singleton] at he7
                  subst he7
                  have m0 : w7.cell? ⟨w.heap.size + 1 + 1, 0, none⟩ = some (.string (B nm0)) := HM7.out.cell 0 _ rfl
                  have m1 : w7.cell? ⟨w.heap.size + 1 + 1, 1, none⟩ = some (.slice Ap qs.length cp) := HM7.out.cell 1 _ rfl
                  have m2 : w7.cell? ⟨w.heap.size + 1 + 1, 2, none⟩ = some (.slice none 0 0) := HM7.out.cell 2 _ rfl
                  have fm1 := HM7.out.free 1
                  have zm := HM7.out.lt
                  have HM8 := Lib.hid (show Has (w7.setCell ⟨w.heap.size + 1 + 1, 1, none⟩ (.slice A7 (qs.length + 1) c7)) (w.heap.size + 1 + 1) (.cells #[.string (B nm0), .slice A7 (qs.length + 1) c7, .slice none 0 0] 49) from HM7.out.put 1 (.slice A7 (qs.length + 1) c7))
                  have HO8 := Lib.hid (HO7.out.set_ (p := ⟨w.heap.size + 1 + 1, 1, none⟩) (Nat.lt_succ_self _) (.slice A7 (qs.length + 1) c7))
                  have HX8 := Lib.hid (HX7.out.setCell (p := ⟨w.heap.size + 1 + 1, 1, none⟩) (by show W.heap.size ≤ _; rw [HZ.out]; exact Nat.le_refl _) (.slice A7 (qs.length + 1) c7))
                  clear hown7 hgr7 hbl7 hA pi hz0 hz1 hz2
                  obtain ⟨c0, c1, c2, c3, c4, c5⟩ := HT3.out _ (HWN.out.trans HX7.out)
                  (try dsimp only at c0 c1 c2 c3 c4 c5)
                  have y2 := block_lt c0
                  go_wp2_with fail
                  refine (markr_is ⟨kd3, ln3, cl3, tx3, nm3, sc3⟩ [44] true _ HMK.out).mono ?_
                  rintro e w9 ⟨rfl, hn9⟩
                  have HX9 := Lib.hid (HX8.out.trans hn9)
                  have HM9 := Lib.hid (HM8.out.nx hn9)
                  have HO9 := Lib.hid (HO8.out.nx hn9)
                  clear hn9 m0 m1 m2 fm1 zm c0 c1 c2 c3 c4 c5 y2
                  go_wp2
                  go_roundw
                  case rel => exact ⟨m + 1, _, _, by go_num, by omega, by omega, by rw [List.length_append, List.length_singleton]; omega, HX9.out, HM9.out, HO9.out, Or.inl ⟨Or.inl (by omega), HVM.out⟩⟩
                  case measure => simp [intOf]; omega
    · have hx2 : ∀ h, ((((B (x :: r))[0]'h).toNat : Int) == 46) = false := fun _ => hx46 x hx
      have hx3 : ((x.toNat : Int) == 46) = false := hx46 x hx
      clear hx
      clear hnm hx46
      go_enter Tryd.func28, Tryd.ntmps28
      go_wp2
      rw [HWE.out]
      clear a0 a0' a3 a3' hd h1I
      go_loopw [5] (fun iv wr => RHeadRel l nm0 (w.heap.size + 1 + 1) W wr V iv) (fun iv _ => l.length + 1 - (intOf iv).toNat)
      case atStart => exact ⟨2, .slice none 0 0, [], rfl, Nat.le_refl _, hle2, Nat.zero_le _, (Nx.refl W).alloc _, HMX.out, OwnR.nil _ _, by first | exact HST.out | simpa using HST.out⟩
      case round =>
        obtain ⟨i, pv, qs, rfl, hi2, hil, hqi, hnx, hM, hO, hcase⟩ := hrel
        obtain ⟨wo, rfl⟩ : ∃ wo : World, wo = wr := ⟨_, rfl⟩
        have HX := Lib.hid hnx
        have HM := Lib.hid hM
        have HO := Lib.hid hO
        obtain ⟨Ap, cp, rfl⟩ := hO.form
        have hiI : (i : Int) ≤ 1000000 := by omega
        have hi0 : (0 : Int) ≤ i := by omega
        have hq6 : qs.length ≤ 1000000 := by omega
        clear hnx hM hO
        rcases hcase with ⟨hgo, hp⟩ | ⟨rfl, hl2, rfl, hv⟩
        case inr =>
          have HVF := Lib.hid hv
          have HO := Lib.hid (show OwnR wo (w.heap.size + 1 + 1 + 1) (.slice Ap 0 cp) ([] : List (PPar × Value)) from HO.out)
          have hd1 : decide ((2 : Int) < l.length) = false := decide_eq_false (by omega)
          have m0 : wo.cell? ⟨w.heap.size + 1 + 1, 0, none⟩ = some (.string (B nm0)) := HM.out.cell 0 _ rfl
          have m1 : wo.cell? ⟨w.heap.size + 1 + 1, 1, none⟩ = some (.slice Ap 0 cp) := HM.out.cell 1 _ rfl
          have m2 : wo.cell? ⟨w.heap.size + 1 + 1, 2, none⟩ = some (.slice none 0 0) := HM.out.cell 2 _ rfl
          have zm := HM.out.lt
          have hr := HR0.out.nx HX.out
          have hf := HF0.out.nx HX.out
          have r0 : wo.cell? ⟨w.heap.size, 0, none⟩ = some (.string (B [])) := hr.cell 0 _ rfl
          have r1 : wo.cell? ⟨w.heap.size, 1, none⟩ = some (.slice none 0 0) := hr.cell 1 _ rfl
          have r2 : wo.cell? ⟨w.heap.size, 2, none⟩ = some (.slice none 0 0) := hr.cell 2 _ rfl
          have f0 := hr.free 0
          have f1 := hr.free 1
          have f2 := hr.free 2
          have zr := hr.lt
          have s0 : wo.cell? ⟨w.heap.size + 1, 0, none⟩ = some (.int .i64 0) := hf.cell 0 _ rfl
          have s1 : wo.cell? ⟨w.heap.size + 1, 1, none⟩ = some (.int .i64 0) := hf.cell 1 _ rfl
          have s2 : wo.cell? ⟨w.heap.size + 1, 2, none⟩ = some (.int .i64 0) := hf.cell 2 _ rfl
          have g0 := hf.free 0
          have g1 := hf.free 1
          have g2 := hf.free 2
          have zf := hf.lt
          have HWB := Lib.hid (HWN.out.trans HX.out)
          clear hr hf hv
          go_wp2
          refine bodyPost_ret (v := .tuple #[.agg #[.string (B nm0), .slice Ap 0 cp, .slice none 0 0], .agg #[.int .i64 0, .int .i64 0, .int .i64 0]]) (by simp [results, Tryd.results28, go_sem, r0, r1, r2, f0, f1, f2, s0, s1, s2, g0, g1, g2]) rfl ?_
          exact ⟨nm0, _, ([] : List (PPar × Value)), _, _, _, rfl, by repeat (with_reducible first | exact HWB.out | refine Nx.setCell ?_ (by first | exact Nat.le_refl _ | exact Nat.le_succ _) _), Or.inl ⟨HVF.out, rfl, rfl, rfl, OwnR.parsQ (base := w.heap.size + 1 + 1 + 1) (by repeat (with_reducible first | exact HO.out | refine OwnR.set_ ?_ (by first | (show w.heap.size < _; omega) | (show w.heap.size + 1 < _; omega)) _))⟩⟩
        have hp2 := parT_step l nm0 i (qs.map (·.1)) hil
        rw [hp] at hp2
        by_cases hk : i < l.length ∧ (atT l i).kind = 1
        case neg =>
          have HVB := Lib.hid (show V = badT l i 5 from by rw [hp2, if_pos hk])
          by_cases h1 : i < l.length
          · obtain ⟨⟨kd, ln, cl, tx, nm, sc⟩, ht⟩ : ∃ t, l[i]? = some t := ⟨_, List.getElem?_eq_getElem h1⟩
            have hat := atT_in l i h1 _ ht
            have hkd : kd ≠ 1 := fun h => hk ⟨h1, by rw [hat]; exact h⟩
            obtain ⟨a0, a1, a2, a3, a4, a5⟩ := (HTA.out.nx (HWN.out.trans HX.out)).at_ i _ ht
            dsimp only at a0
            have y0 := block_lt a0
            have hd1 : decide ((i : Int) < l.length) = true := decide_eq_true (by omega)
            have hd2 : decide ((i : Int) ≥ l.length) = false := decide_eq_false (by omega)
            have bk : (kd != 1) = true := by rw [bne_iff_ne]; exact hkd
            have h1I : (i : Int) < l.length := by omega
            clear ht hat hk a1 a2 a3 a4 a5 hp hp2 hgo
            go_wp2_with fail
            refine (rat_any _ l i 5 _ (HT.out.nx (HWN.out.trans HX.out)) HLL.out).mono ?_
            rintro e wb ⟨rfl, hnb⟩
            have HB := Lib.hid (HX.out.trans hnb)
            have HWB := Lib.hid (HWN.out.trans HB.out)
            have hr := HR0.out.nx HB.out
            have hf := HF0.out.nx HB.out
            have r0 : wb.cell? ⟨w.heap.size, 0, none⟩ = some (.string (B [])) := hr.cell 0 _ rfl
            have r1 : wb.cell? ⟨w.heap.size, 1, none⟩ = some (.slice none 0 0) := hr.cell 1 _ rfl
            have r2 : wb.cell? ⟨w.heap.size, 2, none⟩ = some (.slice none 0 0) := hr.cell 2 _ rfl
            have f0 := hr.free 0
            have f1 := hr.free 1
            have f2 := hr.free 2
            have zr := hr.lt
            have s0 : wb.cell? ⟨w.heap.size + 1, 0, none⟩ = some (.int .i64 0) := hf.cell 0 _ rfl
            have s1 : wb.cell? ⟨w.heap.size + 1, 1, none⟩ = some (.int .i64 0) := hf.cell 1 _ rfl
            have s2 : wb.cell? ⟨w.heap.size + 1, 2, none⟩ = some (.int .i64 0) := hf.cell 2 _ rfl
            have g0 := hf.free 0
            have g1 := hf.free 1
            have g2 := hf.free 2
            have zf := hf.lt
            clear hnb hr hf
            go_wp2
            refine bodyPost_ret (v := .tuple #[.agg #[.string (B []), .slice none 0 0, .slice none 0 0], .agg #[.int .i64 (atT l (i)).line, .int .i64 (atT l (i)).col, .int .i64 5]]) (by simp [results, Tryd.results28, go_sem, r0, r1, r2, f0, f1, f2, s0, s1, s2, g0, g1, g2]) rfl ?_
            exact ⟨[], _, [], _, _, _, rfl, by repeat (with_reducible first | exact HWB.out | refine Nx.setCell ?_ (by first | exact Nat.le_refl _ | exact Nat.le_succ _) _), Or.inr ⟨HVB.out, rfl, rfl, rfl⟩⟩
          · have hd1 : decide ((i : Int) < l.length) = false := decide_eq_false (by omega)
            have hd2 : decide ((i : Int) ≥ l.length) = true := decide_eq_true (by omega)
            have hd3 : decide ((i : Int) > 2) = true := decide_eq_true (by omega)
            clear hk hp hp2 hgo
            go_wp2_with fail
            refine (rat_any _ l i 5 _ (HT.out.nx (HWN.out.trans HX.out)) HLL.out).mono ?_
            rintro e wb ⟨rfl, hnb⟩
            have HB := Lib.hid (HX.out.trans hnb)
            have HWB := Lib.hid (HWN.out.trans HB.out)
            have hr := HR0.out.nx HB.out
            have hf := HF0.out.nx HB.out
            have r0 : wb.cell? ⟨w.heap.size, 0, none⟩ = some (.string (B [])) := hr.cell 0 _ rfl
            have r1 : wb.cell? ⟨w.heap.size, 1, none⟩ = some (.slice none 0 0) := hr.cell 1 _ rfl
            have r2 : wb.cell? ⟨w.heap.size, 2, none⟩ = some (.slice none 0 0) := hr.cell 2 _ rfl
            have f0 := hr.free 0
            have f1 := hr.free 1
            have f2 := hr.free 2
            have zr := hr.lt
            have s0 : wb.cell? ⟨w.heap.size + 1, 0, none⟩ = some (.int .i64 0) := hf.cell 0 _ rfl
            have s1 : wb.cell? ⟨w.heap.size + 1, 1, none⟩ = some (.int .i64 0) := hf.cell 1 _ rfl
            have s2 : wb.cell? ⟨w.heap.size + 1, 2, none⟩ = some (.int .i64 0) := hf.cell 2 _ rfl
            have g0 := hf.free 0
            have g1 := hf.free 1
            have g2 := hf.free 2
            have zf := hf.lt
            clear hnb hr hf
            go_wp2
            refine bodyPost_ret (v := .tuple #[.agg #[.string (B []), .slice none 0 0, .slice none 0 0], .agg #[.int .i64 (atT l (i)).line, .int .i64 (atT l (i)).col, .int .i64 5]]) (by simp [results, Tryd.results28, go_sem, r0, r1, r2, f0, f1, f2, s0, s1, s2, g0, g1, g2]) rfl ?_
            exact ⟨[], _, [], _, _, _, rfl, by repeat (with_reducible first | exact HWB.out | refine Nx.setCell ?_ (by first | exact Nat.le_refl _ | exact Nat.le_succ _) _), Or.inr ⟨HVB.out, rfl, rfl, rfl⟩⟩
        obtain ⟨⟨kd, ln, cl, tx, nm, sc⟩, ht⟩ : ∃ t, l[i]? = some t := ⟨_, List.getElem?_eq_getElem hk.1⟩
        have hat := atT_in l i hk.1 _ ht
        have hkd : kd = 1 := by have h := hk.2; rw [hat] at h; exact h
        subst hkd
        have hilt : i < l.length := hk.1
        rw [if_neg (by simpa using hk), hat, any_fst] at hp2
        dsimp only at hp2
        have HP2 := Lib.hid hp2
        have HTT := Lib.hid ht
        have hd1 : decide ((i : Int) < l.length) = true := decide_eq_true (by omega)
        have hd2 : decide ((i : Int) ≥ l.length) = false := decide_eq_false (by omega)
        have h1I : (i : Int) < l.length := by omega
        obtain ⟨a0, a1, a2, a3, a4, a5⟩ := (HTA.out.nx (HWN.out.trans HX.out)).at_ i _ ht
        dsimp only at a0
        have y0 := block_lt a0
        clear hk ht hat hp hp2 hgo a1 a2 a3 a4 a5
        go_wp2
        clear a0 hd1 hd2
        go_loopw [6] (fun kv wr => ∃ k : Nat, k ≤ qs.length ∧ kv = .int .i64 k ∧ Nx wo wr ∧ ∀ q ∈ qs.take k, (q.1.name == tx) = false) (fun kv _ => qs.length - (intOf kv).toNat)
        case atStart => exact ⟨0, Nat.zero_le _, rfl, Nx.refl wo, fun q h => by simp at h⟩
        case round =>
          obtain ⟨k, hk, rfl, hnx, hno⟩ := hrel
          have KX := Lib.hid hnx
          have HXr := Lib.hid (HX.out.trans hnx)
          have HMr := Lib.hid (HM.out.nx hnx)
          have HOr := Lib.hid (HO.out.nx hnx)
          have HNO := Lib.hid hno
          have m1 : wr.cell? ⟨w.heap.size + 1 + 1, 1, none⟩ = some (.slice Ap qs.length cp) := HMr.out.cell 1 _ rfl
          have zm := HMr.out.lt
          obtain ⟨b0, b1, b2, b3, b4, b5⟩ := (HTA.out.nx (HWN.out.trans HXr.out)).at_ i _ HTT.out
          dsimp only at b3
          have y3 := block_lt b3
          clear hnx hno b0 b1 b2 b4 b5
          by_cases hlt : k < qs.length
          · obtain ⟨⟨⟨pn, hs, df⟩, dv⟩, hq⟩ : ∃ q, qs[k]? = some q := ⟨_, List.getElem?_eq_getElem hlt⟩
            obtain ⟨gp, op, rfl, hPA⟩ : ∃ g o, Ap = some ⟨g, o, none⟩ ∧ ParAt wr g o qs := by
              obtain ⟨A, c, h1, h2, h3, h4⟩ := HOr.out.pars.form
              cases h1
              rcases h4 with ⟨_, h, _⟩ | h
              · subst h; cases hq
              · exact h
            obtain ⟨p0, p1, p2⟩ := hPA.at_ k _ hq
            dsimp only at p0
            have yp := block_lt p0
            have HQ := Lib.hid hq
            have hkI : (k : Int) < qs.length := by omega
            clear hPA hq p1 p2
            cases hb : (pn == tx)
            · have HB := Lib.hid hb
              go_wp2
              go_quiet (fail)
              go_wp2
              go_roundw
              case rel => exact ⟨k + 1, by omega, by go_num, KX.out.drewN _, (by
                intro q hq
                rw [take_snoc' _ _ _ HQ.out] at hq
                rcases List.mem_append.1 hq with h | h
                · exact HNO.out q h
                · simp at h; subst h; exact HB.out)⟩
              case measure => simp [intOf]; omega
            · have HB := Lib.hid hb
              have HVB := Lib.hid (show V = badT l i 10 from by have h := HP2.out; rw [if_pos (hasN_at tx qs k _ HQ.out HB.out)] at h; exact h)
              go_wp2
              go_quiet (fail)
              go_wp2_with fail
              refine (rat_any _ l i 10 _ (HT.out.nx (HWN.out.trans (HXr.out.drewN nq))) HLL.out).mono ?_
              rintro e wb ⟨rfl, hnb⟩
              have HB := Lib.hid ((HXr.out.drewN nq).trans hnb)
              have HWB := Lib.hid (HWN.out.trans HB.out)
              have hr := HR0.out.nx HB.out
              have hf := HF0.out.nx HB.out
              have r0 : wb.cell? ⟨w.heap.size, 0, none⟩ = some (.string (B [])) := hr.cell 0 _ rfl
              have r1 : wb.cell? ⟨w.heap.size, 1, none⟩ = some (.slice none 0 0) := hr.cell 1 _ rfl
              have r2 : wb.cell? ⟨w.heap.size, 2, none⟩ = some (.slice none 0 0) := hr.cell 2 _ rfl
              have f0 := hr.free 0
              have f1 := hr.free 1
              have f2 := hr.free 2
              have zr := hr.lt
              have s0 : wb.cell? ⟨w.heap.size + 1, 0, none⟩ = some (.int .i64 0) := hf.cell 0 _ rfl
              have s1 : wb.cell? ⟨w.heap.size + 1, 1, none⟩ = some (.int .i64 0) := hf.cell 1 _ rfl
              have s2 : wb.cell? ⟨w.heap.size + 1, 2, none⟩ = some (.int .i64 0) := hf.cell 2 _ rfl
              have g0 := hf.free 0
              have g1 := hf.free 1
              have g2 := hf.free 2
              have zf := hf.lt
              clear hnb hr hf
              go_wp2
              refine bodyPost_ret (v := .tuple #[.agg #[.string (B []), .slice none 0 0, .slice none 0 0], .agg #[.int .i64 (atT l (i)).line, .int .i64 (atT l (i)).col, .int .i64 10]]) (by simp [results, Tryd.results28, go_sem, r0, r1, r2, f0, f1, f2, s0, s1, s2, g0, g1, g2]) rfl ?_
              exact ⟨[], _, [], _, _, _, rfl, by repeat (with_reducible first | exact HWB.out | refine Nx.setCell ?_ (by first | exact Nat.le_refl _ | exact Nat.le_succ _) _), Or.inr ⟨HVB.out, rfl, rfl, rfl⟩⟩
          · obtain rfl : k = qs.length := by omega
            have hdup := hasN_all tx qs (fun q hq => HNO.out q (by rw [List.take_length]; exact hq))
            have hp3 := HP2.out
            rw [if_neg (by rw [hdup]; simp)] at hp3
            have HP3 := Lib.hid hp3
            clear hdup hp3
            by_cases he : i + 1 < l.length
            case neg =>
              have hd3 : decide ((i : Int) + 1 < l.length) = false := decide_eq_false (by omega)
              have hd4 : decide ((i : Int) + 1 ≥ l.length) = true := decide_eq_true (by omega)
              have HVE := Lib.hid (show V = .ok nm0 ((qs ++ [((⟨tx, false, []⟩ : PPar), Value.slice none 0 0)]).map (·.1)) from by
                have h := HP3.out
                rw [if_neg (by omega), if_neg (by omega)] at h
                rw [h, List.map_append]; rfl)
              have HX6 := Lib.hid (HXr.out.alloc (.cells #[.string (B tx), .bool false, .slice none 0 0] 96))
              have HM6 := Lib.hid (HMr.out.alloc (.cells #[.string (B tx), .bool false, .slice none 0 0] 96))
              have HO6 := Lib.hid (HOr.out.nx ((Nx.refl wr).alloc (.cells #[.string (B tx), .bool false, .slice none 0 0] 96)))
              have HTD := Lib.hid (Toks.nil (wr.alloc (.cells #[.string (B tx), .bool false, .slice none 0 0] 96)))
              have HTB := Lib.hid (fun g (hg : (Value.slice none 0 0).ownBlock = some g) => (show w.heap.size + 1 + 1 + 1 ≤ g ∧ g < (wr.alloc (.cells #[.string (B tx), .bool false, .slice none 0 0] 96)).heap.size ∧ (Value.slice Ap qs.length cp).ownBlock ≠ some g from by cases hg))
              obtain ⟨pi, hz0, hz1, hz2⟩ := HI.out
              have hA := Lib.hid (HO6.out.1.alloc (.cells #[.string (B tx), .bool false, .slice none 0 0] 96))
              go_wp2_with (at_builtin; refine wpList_append_c _ rfl _ _ 47 rfl (w.heap.size + 1 + 1 + 1) 96 i0 _ 3 48 Tryd.underlying47 pi hz0 hz1 hz2 rfl (by decide) _ _ _ rfl hA.out (some ⟨wr.heap.size + 1, 0, none⟩) 1 1 [.string (B tx), .bool false, .slice none 0 0] rfl rfl (Or.inr ⟨_, rfl, ?ta1c⟩) ?ta2c ?ta3c ?ta4c ?ta5c ?_)
              try (case ta1c => (have h := six_at (wr.alloc (.cells #[.string (B tx), .bool false, .slice none 0 0] 96)) [.string (B tx), .bool false, .slice none 0 0] 96; first | exact h | simpa using h))
              case ta2c => simp [Value.oneCell']
              case ta3c => unfold maxLen; omega
              case ta4c => omega
              case ta5c => (have h6 := HX6.out.size; have h7 := HZ.out; simp at h6 ⊢; omega)
              intro v7 w7 hown7 hgr7 hbl7
              have HX7 := Lib.hid (show Nx W w7 from Below.grown (HX6.out.alloc _) hgr7 (by have h6 := HX6.out.size; simp at h6 ⊢; omega) (fun k hk => by have := (hA.out.lt k hk).1; have := HZ.out; omega))
              have HM7 := Lib.hid ((HM6.out.alloc (.cells #[.string (B tx), .bool false, .slice none 0 0] 96)).keep_grown hgr7 (fun e => by have := (hA.out.lt _ e).1; omega))
              have HO7 := Lib.hid (OwnR.push (q := (⟨tx, false, []⟩, Value.slice none 0 0)) (HO6.out.nx ((Nx.refl (wr.alloc (.cells #[.string (B tx), .bool false, .slice none 0 0] 96))).alloc (.cells #[.string (B tx), .bool false, .slice none 0 0] 96))) (HTD.out.nx ((Nx.refl (wr.alloc (.cells #[.string (B tx), .bool false, .slice none 0 0] 96))).alloc _)) (fun g hg => by have h := HTB.out g hg; exact ⟨h.1, by have h6 := h.2.1; simp at h6 ⊢; omega, h.2.2⟩) hgr7 (by simpa using hbl7) hown7)
              obtain ⟨A7, c7, he7⟩ := HO7.out.form
              rw [List.length_append, List.length_singleton] at he7
              subst he7
              have m0 : w7.cell? ⟨w.heap.size + 1 + 1, 0, none⟩ = some (.string (B nm0)) := HM7.out.cell 0 _ rfl
              have m1 : w7.cell? ⟨w.heap.size + 1 + 1, 1, none⟩ = some (.slice Ap qs.length cp) := HM7.out.cell 1 _ rfl
              have m2 : w7.cell? ⟨w.heap.size + 1 + 1, 2, none⟩ = some (.slice none 0 0) := HM7.out.cell 2 _ rfl
              have fm1 := HM7.out.free 1
              have zm := HM7.out.lt
              have HM8 := Lib.hid (show Has (w7.setCell ⟨w.heap.size + 1 + 1, 1, none⟩ (.slice A7 (qs.length + 1) c7)) (w.heap.size + 1 + 1) (.cells #[.string (B nm0), .slice A7 (qs.length + 1) c7, .slice none 0 0] 49) from HM7.out.put 1 (.slice A7 (qs.length + 1) c7))
              have HO8 := Lib.hid (HO7.out.set_ (p := ⟨w.heap.size + 1 + 1, 1, none⟩) (Nat.lt_succ_self _) (.slice A7 (qs.length + 1) c7))
              have HX8 := Lib.hid (HX7.out.setCell (p := ⟨w.heap.size + 1 + 1, 1, none⟩) (by show W.heap.size ≤ _; rw [HZ.out]; exact Nat.le_refl _) (.slice A7 (qs.length + 1) c7))
              clear hown7 hgr7 hbl7 hA pi hz0 hz1 hz2
              have hr := HR0.out.nx HX7.out
              have hf := HF0.out.nx HX7.out
              have r0 : w7.cell? ⟨w.heap.size, 0, none⟩ = some (.string (B [])) := hr.cell 0 _ rfl
              have r1 : w7.cell? ⟨w.heap.size, 1, none⟩ = some (.slice none 0 0) := hr.cell 1 _ rfl
              have r2 : w7.cell? ⟨w.heap.size, 2, none⟩ = some (.slice none 0 0) := hr.cell 2 _ rfl
              have f0 := hr.free 0
              have f1 := hr.free 1
              have f2 := hr.free 2
              have zr := hr.lt
              have s0 : w7.cell? ⟨w.heap.size + 1, 0, none⟩ = some (.int .i64 0) := hf.cell 0 _ rfl
              have s1 : w7.cell? ⟨w.heap.size + 1, 1, none⟩ = some (.int .i64 0) := hf.cell 1 _ rfl
              have s2 : w7.cell? ⟨w.heap.size + 1, 2, none⟩ = some (.int .i64 0) := hf.cell 2 _ rfl
              have g0 := hf.free 0
              have g1 := hf.free 1
              have g2 := hf.free 2
              have zf := hf.lt
              have HWB := Lib.hid (HWN.out.trans HX8.out)
              clear hr hf
              go_wp2
              refine bodyPost_ret (v := .tuple #[.agg #[.string (B nm0), .slice A7 (qs.length + 1) c7, .slice none 0 0], .agg #[.int .i64 0, .int .i64 0, .int .i64 0]]) (by simp [results, Tryd.results28, go_sem, r0, r1, r2, f0, f1, f2, s0, s1, s2, g0, g1, g2]) rfl ?_
              exact ⟨nm0, _, qs ++ [(⟨tx, false, []⟩, Value.slice none 0 0)], _, _, _, rfl, by repeat (with_reducible first | exact HWB.out | refine Nx.setCell ?_ (by first | exact Nat.le_refl _ | exact Nat.le_succ _) _), Or.inl ⟨HVE.out, rfl, rfl, rfl, OwnR.parsQ (base := w.heap.size + 1 + 1 + 1) (by repeat (with_reducible first | exact HO8.out | refine OwnR.set_ ?_ (by first | (show w.heap.size < _; omega) | (show w.heap.size + 1 < _; omega)) _))⟩⟩
            case pos =>
              have hd3 : decide ((i : Int) + 1 < l.length) = true := decide_eq_true (by omega)
              have hd4 : decide ((i : Int) + 1 ≥ l.length) = false := decide_eq_false (by omega)
              have h2I : (i : Int) + 1 < l.length := by omega
              have h20 : (0 : Int) ≤ (i : Int) + 1 := by omega
              obtain ⟨t2, ht2⟩ : ∃ t, l[i + 1]? = some t := ⟨_, List.getElem?_eq_getElem he⟩
              have hat2 := atT_in l (i + 1) he _ ht2
              have hp4 := HP3.out
              rw [hat2, if_pos he] at hp4
              have HP4 := Lib.hid hp4
              have HT2 := Lib.hid (fun w' (h : Nx w w') => (HTA.out.nx h).at_ (i + 1) _ ht2)
              clear hp4 hat2 ht2 HP3 HP2
              obtain ⟨c0, c1, c2, c3, c4, c5⟩ := HT2.out _ (HWN.out.trans HXr.out)
              obtain ⟨kd2, ln2, cl2, tx2, nm2, sc2⟩ := t2
              dsimp only at c0 c1 c2 c3 c4 c5
              have y2 := block_lt c0
              cases m2 : mkN [61] ⟨kd2, ln2, cl2, tx2, nm2, sc2⟩
              · have M2 := Lib.hid m2
                have HP5 := Lib.hid (show V = if mkN [44] ⟨kd2, ln2, cl2, tx2, nm2, sc2⟩ = true then parT l nm0 (i + 2) (qs.map (·.1) ++ [⟨tx, false, []⟩]) else badT l (i + 1) 5 from by
                  have h := HP4.out
                  rwa [if_neg (by rw [m2]; simp)] at h)
                clear m2 HP4
                go_wp2_with fail
                refine (markr_is ⟨kd2, ln2, cl2, tx2, nm2, sc2⟩ [61] false _ M2.out).mono ?_
                rintro e w6 ⟨rfl, hn6⟩
                have HX6 := Lib.hid ((HXr.out.alloc (.cells #[.string (B tx), .bool false, .slice none 0 0] 96)).trans hn6)
                have HM6 := Lib.hid ((HMr.out.alloc (.cells #[.string (B tx), .bool false, .slice none 0 0] 96)).nx hn6)
                have HO6 := Lib.hid ((HOr.out.nx ((Nx.refl wr).alloc (.cells #[.string (B tx), .bool false, .slice none 0 0] 96))).nx hn6)
                have HQ6 := Lib.hid ((Has.new wr (.cells #[.string (B tx), .bool false, .slice none 0 0] 96)).nx hn6)
                have p0 : w6.cell? ⟨wr.heap.size, 0, none⟩ = some (.string (B tx)) := HQ6.out.cell 0 _ rfl
                have p1 : w6.cell? ⟨wr.heap.size, 1, none⟩ = some (.bool false) := HQ6.out.cell 1 _ rfl
                have p2 : w6.cell? ⟨wr.heap.size, 2, none⟩ = some (.slice none 0 0) := HQ6.out.cell 2 _ rfl
                have zp := HQ6.out.lt
                have HTD := Lib.hid (Toks.nil w6)
                have HTB := Lib.hid (fun g (hg : (Value.slice none 0 0).ownBlock = some g) => (show w.heap.size + 1 + 1 + 1 ≤ g ∧ g < w6.heap.size ∧ (Value.slice Ap qs.length cp).ownBlock ≠ some g from by cases hg))
                clear hn6 c0 c1 c2 c3 c4 c5 y2 m1 zm b3 y3
                have m1 : w6.cell? ⟨w.heap.size + 1 + 1, 1, none⟩ = some (.slice Ap qs.length cp) := HM6.out.cell 1 _ rfl
                have zm := HM6.out.lt
                obtain ⟨pi, hz0, hz1, hz2⟩ := HI.out
                have hA := Lib.hid (HO6.out.1.alloc (.cells #[.string (B tx), .bool false, .slice none 0 0] 96))
                go_wp2_with (at_builtin; refine wpList_append_c _ rfl _ _ 47 rfl (w.heap.size + 1 + 1 + 1) 96 i0 _ 3 48 Tryd.underlying47 pi hz0 hz1 hz2 rfl (by decide) _ _ _ rfl hA.out (some ⟨w6.heap.size, 0, none⟩) 1 1 [.string (B tx), .bool false, .slice none 0 0] rfl rfl (Or.inr ⟨_, rfl, ?tb1c⟩) ?tb2c ?tb3c ?tb4c ?tb5c ?_)
                try (case tb1c => (have h := six_at w6 [.string (B tx), .bool false, .slice none 0 0] 96; first | exact h | simpa using h))
                case tb2c => simp [Value.oneCell']
                case tb3c => unfold maxLen; omega
                case tb4c => omega
                case tb5c => (have h6 := HX6.out.size; have h7 := HZ.out; simp at h6 ⊢; omega)
                intro v7 w7 hown7 hgr7 hbl7
                have HX7 := Lib.hid (show Nx W w7 from Below.grown (HX6.out.alloc _) hgr7 (by have h6 := HX6.out.size; simp at h6 ⊢; omega) (fun k hk => by have := (hA.out.lt k hk).1; have := HZ.out; omega))
                have HM7 := Lib.hid ((HM6.out.alloc (.cells #[.string (B tx), .bool false, .slice none 0 0] 96)).keep_grown hgr7 (fun e => by have := (hA.out.lt _ e).1; omega))
                have HO7 := Lib.hid (OwnR.push (q := (⟨tx, false, []⟩, Value.slice none 0 0)) (HO6.out.nx ((Nx.refl w6).alloc (.cells #[.string (B tx), .bool false, .slice none 0 0] 96))) (HTD.out.nx ((Nx.refl w6).alloc _)) (fun g hg => by have h := HTB.out g hg; exact ⟨h.1, by have h6 := h.2.1; simp at h6 ⊢; omega, h.2.2⟩) hgr7 (by simpa using hbl7) hown7)
                obtain ⟨A7, c7, he7⟩ := HO7.out.form
                rw [List.length_append, List.length_singleton] at he7
                subst he7
                have m0 : w7.cell? ⟨w.heap.size + 1 + 1, 0, none⟩ = some (.string (B nm0)) := HM7.out.cell 0 _ rfl
                have m1 : w7.cell? ⟨w.heap.size + 1 + 1, 1, none⟩ = some (.slice Ap qs.length cp) := HM7.out.cell 1 _ rfl
                have m2 : w7.cell? ⟨w.heap.size + 1 + 1, 2, none⟩ = some (.slice none 0 0) := HM7.out.cell 2 _ rfl
                have fm1 := HM7.out.free 1
                have zm := HM7.out.lt
                have HM8 := Lib.hid (show Has (w7.setCell ⟨w.heap.size + 1 + 1, 1, none⟩ (.slice A7 (qs.length + 1) c7)) (w.heap.size + 1 + 1) (.cells #[.string (B nm0), .slice A7 (qs.length + 1) c7, .slice none 0 0] 49) from HM7.out.put 1 (.slice A7 (qs.length + 1) c7))
                have HO8 := Lib.hid (HO7.out.set_ (p := ⟨w.heap.size + 1 + 1, 1, none⟩) (Nat.lt_succ_self _) (.slice A7 (qs.length + 1) c7))
                have HX8 := Lib.hid (HX7.out.setCell (p := ⟨w.heap.size + 1 + 1, 1, none⟩) (by show W.heap.size ≤ _; rw [HZ.out]; exact Nat.le_refl _) (.slice A7 (qs.length + 1) c7))
                clear hown7 hgr7 hbl7 hA pi hz0 hz1 hz2
                obtain ⟨c0, c1, c2, c3, c4, c5⟩ := HT2.out _ (HWN.out.trans HX7.out)
                (try dsimp only at c0 c1 c2 c3 c4 c5)
                have y2 := block_lt c0
                go_wp2_with fail
                cases m3 : mkN [44] ⟨kd2, ln2, cl2, tx2, nm2, sc2⟩
                · have HVB := Lib.hid (show V = badT l (i + 1) 5 from by have h := HP5.out; rwa [m3, if_neg (by simp)] at h)
                  refine (markr_is ⟨kd2, ln2, cl2, tx2, nm2, sc2⟩ [44] false _ m3).mono ?_
                  rintro e w9 ⟨rfl, hn9⟩
                  have HX9 := Lib.hid (HX8.out.trans hn9)
                  clear hn9 m0 m1 m2 fm1 zm c0 c1 c2 c3 c4 c5 y2 m3
                  go_wp2_with fail
                  have CB := rat_any _ l (i + 1) 5 _ (HT.out.nx (HWN.out.trans HX9.out)) HLL.out
                  rw [show ((i + 1 : Nat) : Int) = (i : Int) + 1 by omega] at CB
                  refine CB.mono ?_
                  rintro e wb ⟨rfl, hnb⟩
                  have HB := Lib.hid (HX9.out.trans hnb)
                  have HWB := Lib.hid (HWN.out.trans HB.out)
                  have hr := HR0.out.nx HB.out
                  have hf := HF0.out.nx HB.out
                  have r0 : wb.cell? ⟨w.heap.size, 0, none⟩ = some (.string (B [])) := hr.cell 0 _ rfl
                  have r1 : wb.cell? ⟨w.heap.size, 1, none⟩ = some (.slice none 0 0) := hr.cell 1 _ rfl
                  have r2 : wb.cell? ⟨w.heap.size, 2, none⟩ = some (.slice none 0 0) := hr.cell 2 _ rfl
                  have f0 := hr.free 0
                  have f1 := hr.free 1
                  have f2 := hr.free 2
                  have zr := hr.lt
                  have s0 : wb.cell? ⟨w.heap.size + 1, 0, none⟩ = some (.int .i64 0) := hf.cell 0 _ rfl
                  have s1 : wb.cell? ⟨w.heap.size + 1, 1, none⟩ = some (.int .i64 0) := hf.cell 1 _ rfl
                  have s2 : wb.cell? ⟨w.heap.size + 1, 2, none⟩ = some (.int .i64 0) := hf.cell 2 _ rfl
                  have g0 := hf.free 0
                  have g1 := hf.free 1
                  have g2 := hf.free 2
                  have zf := hf.lt
                  clear hnb hr hf
                  go_wp2
                  refine bodyPost_ret (v := .tuple #[.agg #[.string (B []), .slice none 0 0, .slice none 0 0], .agg #[.int .i64 (atT l (i + 1)).line, .int .i64 (atT l (i + 1)).col, .int .i64 5]]) (by simp [results, Tryd.results28, go_sem, r0, r1, r2, f0, f1, f2, s0, s1, s2, g0, g1, g2]) rfl ?_
                  exact ⟨[], _, [], _, _, _, rfl, by repeat (with_reducible first | exact HWB.out | refine Nx.setCell ?_ (by first | exact Nat.le_refl _ | exact Nat.le_succ _) _), Or.inr ⟨HVB.out, rfl, rfl, rfl⟩⟩
                · have HVM := Lib.hid (show parT l nm0 (i + 1 + 1) ((qs ++ [((⟨tx, false, []⟩ : PPar), Value.slice none 0 0)]).map (·.1)) = V from by have h := HP5.out; rw [m3, if_pos rfl] at h; rw [h, List.map_append]; rfl)
                  refine (markr_is ⟨kd2, ln2, cl2, tx2, nm2, sc2⟩ [44] true _ m3).mono ?_
                  rintro e w9 ⟨rfl, hn9⟩
                  have HX9 := Lib.hid (HX8.out.trans hn9)
                  have HM9 := Lib.hid (HM8.out.nx hn9)
                  have HO9 := Lib.hid (HO8.out.nx hn9)
                  clear hn9 m0 m1 m2 fm1 zm c0 c1 c2 c3 c4 c5 y2 m3
                  go_wp2
                  go_roundw
                  case rel => exact ⟨i + 1 + 1, _, _, by go_num, by omega, by omega, by rw [List.length_append, List.length_singleton]; omega, HX9.out, HM9.out, HO9.out, Or.inl ⟨Or.inl (by omega), HVM.out⟩⟩
                  case measure => simp [intOf]; omega
              · have hk := comN_le (l.drop (i + 2)) 0
                rw [List.length_drop] at hk
                have hca := comN_at (l.drop (i + 2)) 0
                have hp5 : V = if i + 2 + comN 0 (l.drop (i + 2)) < l.length then parT l nm0 (i + 2 + comN 0 (l.drop (i + 2)) + 1) (qs.map (·.1) ++ [⟨tx, true, (l.drop (i + 2)).take (comN 0 (l.drop (i + 2)))⟩]) else .ok nm0 (qs.map (·.1) ++ [⟨tx, true, (l.drop (i + 2)).take (comN 0 (l.drop (i + 2)))⟩]) := by
                  have h := HP4.out
                  rwa [if_pos ⟨he, m2⟩] at h
                have cp := fun w' (h : Nx w w') => comma_any _ l (i + 2) w' (HT.out.nx h) (by omega)
                obtain ⟨k, hkd⟩ : ∃ k, comN 0 (l.drop (i + 2)) = k := ⟨_, rfl⟩
                rw [hkd] at hk hca hp5 cp
                obtain ⟨m, hm⟩ : ∃ m, i + 2 + k = m := ⟨_, rfl⟩
                rw [hm] at hp5 cp
                have hkm : k = m - (i + 2) := by omega
                have hmid : ((l.take m).drop (i + 2)) = (l.drop (i + 2)).take k := by rw [List.drop_take, hkm]
                have hnm : i + 2 ≤ m := by omega
                have hml : m ≤ l.length := by omega
                have hlen : ((l.drop (i + 2)).take k).length = m - (i + 2) := by rw [List.length_take, List.length_drop]; omega
                have HLEN := Lib.hid hlen
                have HMID := Lib.hid hmid
                have HP5 := Lib.hid hp5
                have HCA := Lib.hid (show m < l.length → ∃ t, l[m]? = some t ∧ mkN [44] t = true from fun h => by
                  obtain ⟨t, h1, h2⟩ := hca (by rw [List.length_drop]; omega)
                  rw [List.getElem?_drop, hm] at h1
                  exact ⟨t, h1, h2⟩)
                have CP := Lib.hid (fun w' (h : Nx w w') => (show Calls Tryd.prog 51 #[.slice (some ⟨ga, oa, none⟩) l.length c, .int .i64 ((i : Int) + 1 + 1)] w' (fun e w'' => e = .returned (.int .i64 (m : Int)) ∧ Nx w' w'') from by
                  have h1 := cp w' h
                  rwa [show ((i + 2 : Nat) : Int) = (i : Int) + 1 + 1 by omega] at h1))
                have M2 := Lib.hid m2
                have mI : (m : Int) ≤ c := by omega
                have nI : (i : Int) + 1 + 1 ≤ m := by omega
                clear m2 hk hca hp5 cp hkd hm hkm hmid hlen HP4
                go_wp2_with fail
                refine (markr_is ⟨kd2, ln2, cl2, tx2, nm2, sc2⟩ [61] true _ M2.out).mono ?_
                rintro e w3 ⟨rfl, hn3⟩
                have KN3 := Lib.hid (((Nx.refl wr).alloc (.cells #[.string (B tx), .bool false, .slice none 0 0] 96)).trans hn3)
                have HQ3 := Lib.hid ((Has.new wr (.cells #[.string (B tx), .bool false, .slice none 0 0] 96)).nx hn3)
                clear hn3 c0 c1 c2 c3 c4 c5 y2 m1 zm b3 y3
                go_wp2_with fail
                refine (CP.out _ (HWN.out.trans (HXr.out.trans KN3.out))).mono ?_
                rintro e w4 ⟨rfl, hn4⟩
                have KN4 := Lib.hid (KN3.out.trans hn4)
                have HQ4 := Lib.hid (HQ3.out.nx hn4)
                clear hn4
                have p0 : w4.cell? ⟨wr.heap.size, 0, none⟩ = some (.string (B tx)) := HQ4.out.cell 0 _ rfl
                have p1 : w4.cell? ⟨wr.heap.size, 1, none⟩ = some (.bool false) := HQ4.out.cell 1 _ rfl
                have p2 : w4.cell? ⟨wr.heap.size, 2, none⟩ = some (.slice none 0 0) := HQ4.out.cell 2 _ rfl
                have f1 := HQ4.out.free 1
                have f2 := HQ4.out.free 2
                have zp := HQ4.out.lt
                have three : (c = i + 1 + 1 ∧ l.length ≤ m) ∨ (¬ c = i + 1 + 1 ∧ i + 1 + 1 < c ∧ l.length ≤ m) ∨ (¬ c = i + 1 + 1 ∧ i + 1 + 1 < c ∧ m < l.length) := by omega
                rcases three with ⟨rfl, hml3⟩ | ⟨hcn, hn3, hml3⟩ | ⟨hcn, hn3, hml3⟩
                · skip
                  have hm3 : m = i + 1 + 1 := by omega
                  have mI2 : (m : Int) ≤ (i : Int) + 1 + 1 := by omega
                  have hz : m - (i + 1 + 1) = 0 := by omega
                  have hts : Toks w (.slice (some ⟨ga, oa, none⟩) (m - (i + 1 + 1)) (i + 1 + 1 - (i + 1 + 1))) ((l.drop (i + 2)).take k) := by
                    rw [List.eq_nil_of_length_eq_zero (show ((l.drop (i + 2)).take k).length = 0 from HLEN.out.trans hz), hz, Nat.sub_self]; exact toks_empty _ _
                  clear hz hm3
                  have hW5 : Nx wr (w4.setCell ⟨wr.heap.size, 1, none⟩ (.bool true)) := KN4.out.setCell (p := ⟨wr.heap.size, 1, none⟩) (Nat.le_refl _) _
                  have hs0 := (toks_src (hts.nx ((HWN.out.trans (HXr.out.trans hW5)).alloc (.cells #[] 58)))).2.2.2
                  rw [show ((l.drop (i + 2)).take k).length = m - (i + 1 + 1) from HLEN.out] at hs0
                  have HS := Lib.hid hs0
                  have HW5 := Lib.hid hW5
                  have HM0 := Lib.hid (show OwnC ((w4.setCell ⟨wr.heap.size, 1, none⟩ (.bool true)).alloc (.cells #[] 58)) w4.heap.size 58 6 (.slice (some ⟨w4.heap.size, 0, none⟩) 0 0) 0 [] from by
                    have h := OwnC.made (w4.setCell ⟨wr.heap.size, 1, none⟩ (.bool true)) w4.heap.size 58 6 #[] 0 (by simp) (by unfold maxLen; omega) (by simp)
                    rw [show (w4.setCell ⟨wr.heap.size, 1, none⟩ (.bool true)).heap.size = w4.heap.size by simp] at h
                    exact h)
                  have HS1 := Lib.hid (show (toksC ((l.drop (i + 2)).take k)).length = (m - (i + 1 + 1)) * 6 from by rw [toksC_len, HLEN.out])
                  have HS2 := Lib.hid (toksC_one ((l.drop (i + 2)).take k))
                  have HQ5 := Lib.hid ((HQ4.out.put 1 (.bool true)).alloc (.cells #[] 58))
                  have hdm : decide ((m : Int) ≥ l.length) = true := decide_eq_true (by omega)
                  obtain ⟨hj, hj0, hj1, hj2⟩ := HJ.out
                  clear hs0 hts hW5
                  go_wp2_with (at_builtin; refine wpList_append_c _ rfl _ _ 37 rfl w4.heap.size 58 j0 _ 6 56 Tryd.underlying37 hj hj0 hj1 hj2 rfl (by decide) _ _ _ rfl HM0.out (some ⟨ga, oa, none⟩) (m - (i + 1 + 1)) (i + 1 + 1 - (i + 1 + 1)) (toksC ((l.drop (i + 2)).take k)) rfl HS1.out HS.out HS2.out ?tcb3c ?tcb4c ?tcb5c ?_)
                  case tcb3c => unfold maxLen; omega
                  case tcb4c => omega
                  case tcb5c => simp
                  intro v2 w2 hown2 hgr2 hbl2
                  have hown2 : OwnC w2 w4.heap.size 58 6 v2 (m - (i + 1 + 1)) (toksC ((l.drop (i + 2)).take k)) := by first | exact hown2 | (have := hown2; simp at this ⊢; exact this)
                  rw [← show ((l.drop (i + 2)).take k).length = m - (i + 1 + 1) from HLEN.out] at hown2
                  have K2 := Lib.hid (show Nx wr w2 from Below.grown (HW5.out.alloc _) hgr2 (by have := HW5.out.size; simp at this ⊢; omega) (fun k hk => by have := (HM0.out.lt k hk).1; have := KN4.out.size; omega))
                  have HTK := Lib.hid (own_fresh (Nat.le_refl _) hown2)
                  have HQ2 := Lib.hid (HQ5.out.keep_grown hgr2 (fun e => by have := (HM0.out.lt _ e).1; have := HQ4.out.lt; omega))
                  obtain ⟨A2, c2, rfl, _⟩ := HTK.out.1.form
                  rw [HLEN.out] at HTK
                  rw [HLEN.out]
                  have p2 : w2.cell? ⟨wr.heap.size, 2, none⟩ = some (.slice none 0 0) := HQ2.out.cell 2 _ rfl
                  have f2 := HQ2.out.free 2
                  have zp := HQ2.out.lt
                  clear hown2 hgr2 hbl2 p0 p1 f1
                  go_upto_region 22 with fail
                  obtain ⟨w6, hw6⟩ : ∃ w6, w2.setCell ⟨wr.heap.size, 2, none⟩ (.slice A2 (m - (i + 1 + 1)) c2) = w6 := ⟨_, rfl⟩
                  rw [hw6]
                  have K6 := Lib.hid (show Nx wr w6 from hw6 ▸ K2.out.setCell (p := ⟨wr.heap.size, 2, none⟩) (Nat.le_refl _) (.slice A2 (m - (i + 1 + 1)) c2))
                  have HQ6 := Lib.hid (show Has w6 wr.heap.size (.cells #[.string (B tx), .bool true, .slice A2 (m - (i + 1 + 1)) c2] 96) from hw6 ▸ HQ2.out.put 2 (.slice A2 (m - (i + 1 + 1)) c2))
                  have HTD := Lib.hid (show Toks w6 (.slice A2 (m - (i + 1 + 1)) c2) ((l.drop (i + 2)).take k) from by
                    rw [← hw6]
                    exact toks_block HTK.out.1 fun g hg => Below.heap_setCell w2 _ _ g (fun e => by have h1 := (HTK.out.2 g hg).1; have h2 := HQ4.out.lt; have h3 : g = wr.heap.size := e; omega))
                  have HTB := Lib.hid (fun g (hg : (Value.slice A2 (m - (i + 1 + 1)) c2).ownBlock = some g) => (show w.heap.size + 1 + 1 + 1 ≤ g ∧ g < w6.heap.size ∧ (Value.slice Ap qs.length cp).ownBlock ≠ some g from by
                    have h1 := HTK.out.2 g hg
                    have h2 := HQ4.out.lt
                    have h3 : w6.heap.size = w2.heap.size := by rw [← hw6]; simp
                    have h4 := HMr.out.lt
                    refine ⟨by omega, by omega, fun e => ?_⟩
                    have := (HOr.out.1.lt g e).2
                    omega))
                  have HX6 := Lib.hid (HXr.out.trans K6.out)
                  have HM6 := Lib.hid (HMr.out.nx K6.out)
                  have HO6 := Lib.hid (HOr.out.nx K6.out)
                  clear hw6 p2 f2 zp HQ2 HTK K2 HM0 HS HS1 HS2 HQ5 HW5 HQ4 HQ3
                  have p0 : w6.cell? ⟨wr.heap.size, 0, none⟩ = some (.string (B tx)) := HQ6.out.cell 0 _ rfl
                  have p1 : w6.cell? ⟨wr.heap.size, 1, none⟩ = some (.bool true) := HQ6.out.cell 1 _ rfl
                  have p2 : w6.cell? ⟨wr.heap.size, 2, none⟩ = some (.slice A2 (m - (i + 1 + 1)) c2) := HQ6.out.cell 2 _ rfl
                  have zp := HQ6.out.lt
                  have m1 : w6.cell? ⟨w.heap.size + 1 + 1, 1, none⟩ = some (.slice Ap qs.length cp) := HM6.out.cell 1 _ rfl
                  have zm := HM6.out.lt
                  have HVE := Lib.hid (show V = .ok nm0 ((qs ++ [((⟨tx, true, ((l.drop (i + 2)).take k)⟩ : PPar), Value.slice A2 (m - (i + 1 + 1)) c2)]).map (·.1)) from by
                    have h := HP5.out
                    rw [if_neg (by omega)] at h
                    rw [h, List.map_append]; rfl)
                  obtain ⟨pi, hz0, hz1, hz2⟩ := HI.out
                  have hA := Lib.hid (HO6.out.1.alloc (.cells #[.string (B tx), .bool true, .slice A2 (m - (i + 1 + 1)) c2] 96))
                  go_wp2_with (at_builtin; refine wpList_append_c _ rfl _ _ 47 rfl (w.heap.size + 1 + 1 + 1) 96 i0 _ 3 48 Tryd.underlying47 pi hz0 hz1 hz2 rfl (by decide) _ _ _ rfl hA.out (some ⟨w6.heap.size, 0, none⟩) 1 1 [.string (B tx), .bool true, .slice A2 (m - (i + 1 + 1)) c2] rfl rfl (Or.inr ⟨_, rfl, ?uc1c⟩) ?uc2c ?uc3c ?uc4c ?uc5c ?_)
                  try (case uc1c => (have h := six_at w6 [.string (B tx), .bool true, .slice A2 (m - (i + 1 + 1)) c2] 96; first | exact h | simpa using h))
                  case uc2c => simp [Value.oneCell']
                  case uc3c => unfold maxLen; omega
                  case uc4c => omega
                  case uc5c => (have h6 := HX6.out.size; have h7 := HZ.out; simp at h6 ⊢; omega)
                  intro v7 w7 hown7 hgr7 hbl7
                  have HX7 := Lib.hid (show Nx W w7 from Below.grown (HX6.out.alloc _) hgr7 (by have h6 := HX6.out.size; simp at h6 ⊢; omega) (fun k hk => by have := (hA.out.lt k hk).1; have := HZ.out; omega))
                  have HM7 := Lib.hid ((HM6.out.alloc (.cells #[.string (B tx), .bool true, .slice A2 (m - (i + 1 + 1)) c2] 96)).keep_grown hgr7 (fun e => by have := (hA.out.lt _ e).1; omega))
                  have HO7 := Lib.hid (OwnR.push (q := (⟨tx, true, ((l.drop (i + 2)).take k)⟩, Value.slice A2 (m - (i + 1 + 1)) c2)) (HO6.out.nx ((Nx.refl w6).alloc (.cells #[.string (B tx), .bool true, .slice A2 (m - (i + 1 + 1)) c2] 96))) (HTD.out.nx ((Nx.refl w6).alloc _)) (fun g hg => by have h := HTB.out g hg; exact ⟨h.1, by have h6 := h.2.1; simp at h6 ⊢; omega, h.2.2⟩) hgr7 (by simpa using hbl7) hown7)
                  obtain ⟨A7, c7, he7⟩ := HO7.out.form
                  rw [List.length_append, List.length_singleton] at he7
                  subst he7
                  have m0 : w7.cell? ⟨w.heap.size + 1 + 1, 0, none⟩ = some (.string (B nm0)) := HM7.out.cell 0 _ rfl
                  have m1 : w7.cell? ⟨w.heap.size + 1 + 1, 1, none⟩ = some (.slice Ap qs.length cp) := HM7.out.cell 1 _ rfl
                  have m2 : w7.cell? ⟨w.heap.size + 1 + 1, 2, none⟩ = some (.slice none 0 0) := HM7.out.cell 2 _ rfl
                  have fm1 := HM7.out.free 1
                  have zm := HM7.out.lt
                  have HM8 := Lib.hid (show Has (w7.setCell ⟨w.heap.size + 1 + 1, 1, none⟩ (.slice A7 (qs.length + 1) c7)) (w.heap.size + 1 + 1) (.cells #[.string (B nm0), .slice A7 (qs.length + 1) c7, .slice none 0 0] 49) from HM7.out.put 1 (.slice A7 (qs.length + 1) c7))
                  have HO8 := Lib.hid (HO7.out.set_ (p := ⟨w.heap.size + 1 + 1, 1, none⟩) (Nat.lt_succ_self _) (.slice A7 (qs.length + 1) c7))
                  have HX8 := Lib.hid (HX7.out.setCell (p := ⟨w.heap.size + 1 + 1, 1, none⟩) (by show W.heap.size ≤ _; rw [HZ.out]; exact Nat.le_refl _) (.slice A7 (qs.length + 1) c7))
                  clear hown7 hgr7 hbl7 hA pi hz0 hz1 hz2
                  have hr := HR0.out.nx HX7.out
                  have hf := HF0.out.nx HX7.out
                  have r0 : w7.cell? ⟨w.heap.size, 0, none⟩ = some (.string (B [])) := hr.cell 0 _ rfl
                  have r1 : w7.cell? ⟨w.heap.size, 1, none⟩ = some (.slice none 0 0) := hr.cell 1 _ rfl
                  have r2 : w7.cell? ⟨w.heap.size, 2, none⟩ = some (.slice none 0 0) := hr.cell 2 _ rfl
                  have f0 := hr.free 0
                  have f1 := hr.free 1
                  have f2 := hr.free 2
                  have zr := hr.lt
                  have s0 : w7.cell? ⟨w.heap.size + 1, 0, none⟩ = some (.int .i64 0) := hf.cell 0 _ rfl
                  have s1 : w7.cell? ⟨w.heap.size + 1, 1, none⟩ = some (.int .i64 0) := hf.cell 1 _ rfl
                  have s2 : w7.cell? ⟨w.heap.size + 1, 2, none⟩ = some (.int .i64 0) := hf.cell 2 _ rfl
                  have g0 := hf.free 0
                  have g1 := hf.free 1
                  have g2 := hf.free 2
                  have zf := hf.lt
                  have HWB := Lib.hid (HWN.out.trans HX8.out)
                  clear hr hf
                  go_wp2
                  refine bodyPost_ret (v := .tuple #[.agg #[.string (B nm0), .slice A7 (qs.length + 1) c7, .slice none 0 0], .agg #[.int .i64 0, .int .i64 0, .int .i64 0]]) (by simp [results, Tryd.results28, go_sem, r0, r1, r2, f0, f1, f2, s0, s1, s2, g0, g1, g2]) rfl ?_
                  exact ⟨nm0, _, qs ++ [(⟨tx, true, ((l.drop (i + 2)).take k)⟩, Value.slice A2 (m - (i + 1 + 1)) c2)], _, _, _, rfl, by repeat (with_reducible first | exact HWB.out | refine Nx.setCell ?_ (by first | exact Nat.le_refl _ | exact Nat.le_succ _) _), Or.inl ⟨HVE.out, rfl, rfl, rfl, OwnR.parsQ (base := w.heap.size + 1 + 1 + 1) (by repeat (with_reducible first | exact HO8.out | refine OwnR.set_ ?_ (by first | (show w.heap.size < _; omega) | (show w.heap.size + 1 < _; omega)) _))⟩⟩
                · skip
                  have hts : Toks w (.slice (some ⟨ga, oa + (i + 1 + 1) * 6, none⟩) (m - (i + 1 + 1)) (c - (i + 1 + 1))) ((l.drop (i + 2)).take k) := by have h1 := toks_mid HT.out (i + 2) m hnm hml; rw [HMID.out] at h1; exact h1
                  have hW5 : Nx wr (w4.setCell ⟨wr.heap.size, 1, none⟩ (.bool true)) := KN4.out.setCell (p := ⟨wr.heap.size, 1, none⟩) (Nat.le_refl _) _
                  have hs0 := (toks_src (hts.nx ((HWN.out.trans (HXr.out.trans hW5)).alloc (.cells #[] 58)))).2.2.2
                  rw [show ((l.drop (i + 2)).take k).length = m - (i + 1 + 1) from HLEN.out] at hs0
                  have HS := Lib.hid hs0
                  have HW5 := Lib.hid hW5
                  have HM0 := Lib.hid (show OwnC ((w4.setCell ⟨wr.heap.size, 1, none⟩ (.bool true)).alloc (.cells #[] 58)) w4.heap.size 58 6 (.slice (some ⟨w4.heap.size, 0, none⟩) 0 0) 0 [] from by
                    have h := OwnC.made (w4.setCell ⟨wr.heap.size, 1, none⟩ (.bool true)) w4.heap.size 58 6 #[] 0 (by simp) (by unfold maxLen; omega) (by simp)
                    rw [show (w4.setCell ⟨wr.heap.size, 1, none⟩ (.bool true)).heap.size = w4.heap.size by simp] at h
                    exact h)
                  have HS1 := Lib.hid (show (toksC ((l.drop (i + 2)).take k)).length = (m - (i + 1 + 1)) * 6 from by rw [toksC_len, HLEN.out])
                  have HS2 := Lib.hid (toksC_one ((l.drop (i + 2)).take k))
                  have HQ5 := Lib.hid ((HQ4.out.put 1 (.bool true)).alloc (.cells #[] 58))
                  have hdm : decide ((m : Int) ≥ l.length) = true := decide_eq_true (by omega)
                  obtain ⟨hj, hj0, hj1, hj2⟩ := HJ.out
                  clear hs0 hts hW5
                  go_wp2_with (at_builtin; refine wpList_append_c _ rfl _ _ 37 rfl w4.heap.size 58 j0 _ 6 56 Tryd.underlying37 hj hj0 hj1 hj2 rfl (by decide) _ _ _ rfl HM0.out (some ⟨ga, oa + (i + 1 + 1) * 6, none⟩) (m - (i + 1 + 1)) (c - (i + 1 + 1)) (toksC ((l.drop (i + 2)).take k)) rfl HS1.out HS.out HS2.out ?tdb3c ?tdb4c ?tdb5c ?_)
                  case tdb3c => unfold maxLen; omega
                  case tdb4c => omega
                  case tdb5c => simp
                  intro v2 w2 hown2 hgr2 hbl2
                  have hown2 : OwnC w2 w4.heap.size 58 6 v2 (m - (i + 1 + 1)) (toksC ((l.drop (i + 2)).take k)) := by first | exact hown2 | (have := hown2; simp at this ⊢; exact this)
                  rw [← show ((l.drop (i + 2)).take k).length = m - (i + 1 + 1) from HLEN.out] at hown2
                  have K2 := Lib.hid (show Nx wr w2 from Below.grown (HW5.out.alloc _) hgr2 (by have := HW5.out.size; simp at this ⊢; omega) (fun k hk => by have := (HM0.out.lt k hk).1; have := KN4.out.size; omega))
                  have HTK := Lib.hid (own_fresh (Nat.le_refl _) hown2)
                  have HQ2 := Lib.hid (HQ5.out.keep_grown hgr2 (fun e => by have := (HM0.out.lt _ e).1; have := HQ4.out.lt; omega))
                  obtain ⟨A2, c2, rfl, _⟩ := HTK.out.1.form
                  rw [HLEN.out] at HTK
                  rw [HLEN.out]
                  have p2 : w2.cell? ⟨wr.heap.size, 2, none⟩ = some (.slice none 0 0) := HQ2.out.cell 2 _ rfl
                  have f2 := HQ2.out.free 2
                  have zp := HQ2.out.lt
                  clear hown2 hgr2 hbl2 p0 p1 f1
                  go_upto_region 22 with fail
                  obtain ⟨w6, hw6⟩ : ∃ w6, w2.setCell ⟨wr.heap.size, 2, none⟩ (.slice A2 (m - (i + 1 + 1)) c2) = w6 := ⟨_, rfl⟩
                  rw [hw6]
                  have K6 := Lib.hid (show Nx wr w6 from hw6 ▸ K2.out.setCell (p := ⟨wr.heap.size, 2, none⟩) (Nat.le_refl _) (.slice A2 (m - (i + 1 + 1)) c2))
                  have HQ6 := Lib.hid (show Has w6 wr.heap.size (.cells #[.string (B tx), .bool true, .slice A2 (m - (i + 1 + 1)) c2] 96) from hw6 ▸ HQ2.out.put 2 (.slice A2 (m - (i + 1 + 1)) c2))
                  have HTD := Lib.hid (show Toks w6 (.slice A2 (m - (i + 1 + 1)) c2) ((l.drop (i + 2)).take k) from by
                    rw [← hw6]
                    exact toks_block HTK.out.1 fun g hg => Below.heap_setCell w2 _ _ g (fun e => by have h1 := (HTK.out.2 g hg).1; have h2 := HQ4.out.lt; have h3 : g = wr.heap.size := e; omega))
                  have HTB := Lib.hid (fun g (hg : (Value.slice A2 (m - (i + 1 + 1)) c2).ownBlock = some g) => (show w.heap.size + 1 + 1 + 1 ≤ g ∧ g < w6.heap.size ∧ (Value.slice Ap qs.length cp).ownBlock ≠ some g from by
                    have h1 := HTK.out.2 g hg
                    have h2 := HQ4.out.lt
                    have h3 : w6.heap.size = w2.heap.size := by rw [← hw6]; simp
                    have h4 := HMr.out.lt
                    refine ⟨by omega, by omega, fun e => ?_⟩
                    have := (HOr.out.1.lt g e).2
                    omega))
                  have HX6 := Lib.hid (HXr.out.trans K6.out)
                  have HM6 := Lib.hid (HMr.out.nx K6.out)
                  have HO6 := Lib.hid (HOr.out.nx K6.out)
                  clear hw6 p2 f2 zp HQ2 HTK K2 HM0 HS HS1 HS2 HQ5 HW5 HQ4 HQ3
                  have p0 : w6.cell? ⟨wr.heap.size, 0, none⟩ = some (.string (B tx)) := HQ6.out.cell 0 _ rfl
                  have p1 : w6.cell? ⟨wr.heap.size, 1, none⟩ = some (.bool true) := HQ6.out.cell 1 _ rfl
                  have p2 : w6.cell? ⟨wr.heap.size, 2, none⟩ = some (.slice A2 (m - (i + 1 + 1)) c2) := HQ6.out.cell 2 _ rfl
                  have zp := HQ6.out.lt
                  have m1 : w6.cell? ⟨w.heap.size + 1 + 1, 1, none⟩ = some (.slice Ap qs.length cp) := HM6.out.cell 1 _ rfl
                  have zm := HM6.out.lt
                  have HVE := Lib.hid (show V = .ok nm0 ((qs ++ [((⟨tx, true, ((l.drop (i + 2)).take k)⟩ : PPar), Value.slice A2 (m - (i + 1 + 1)) c2)]).map (·.1)) from by
                    have h := HP5.out
                    rw [if_neg (by omega)] at h
                    rw [h, List.map_append]; rfl)
                  obtain ⟨pi, hz0, hz1, hz2⟩ := HI.out
                  have hA := Lib.hid (HO6.out.1.alloc (.cells #[.string (B tx), .bool true, .slice A2 (m - (i + 1 + 1)) c2] 96))
                  go_wp2_with (at_builtin; refine wpList_append_c _ rfl _ _ 47 rfl (w.heap.size + 1 + 1 + 1) 96 i0 _ 3 48 Tryd.underlying47 pi hz0 hz1 hz2 rfl (by decide) _ _ _ rfl hA.out (some ⟨w6.heap.size, 0, none⟩) 1 1 [.string (B tx), .bool true, .slice A2 (m - (i + 1 + 1)) c2] rfl rfl (Or.inr ⟨_, rfl, ?ud1c⟩) ?ud2c ?ud3c ?ud4c ?ud5c ?_)
                  try (case ud1c => (have h := six_at w6 [.string (B tx), .bool true, .slice A2 (m - (i + 1 + 1)) c2] 96; first | exact h | simpa using h))
                  case ud2c => simp [Value.oneCell']
                  case ud3c => unfold maxLen; omega
                  case ud4c => omega
                  case ud5c => (have h6 := HX6.out.size; have h7 := HZ.out; simp at h6 ⊢; omega)
                  intro v7 w7 hown7 hgr7 hbl7
                  have HX7 := Lib.hid (show Nx W w7 from Below.grown (HX6.out.alloc _) hgr7 (by have h6 := HX6.out.size; simp at h6 ⊢; omega) (fun k hk => by have := (hA.out.lt k hk).1; have := HZ.out; omega))
                  have HM7 := Lib.hid ((HM6.out.alloc (.cells #[.string (B tx), .bool true, .slice A2 (m - (i + 1 + 1)) c2] 96)).keep_grown hgr7 (fun e => by have := (hA.out.lt _ e).1; omega))
                  have HO7 := Lib.hid (OwnR.push (q := (⟨tx, true, ((l.drop (i + 2)).take k)⟩, Value.slice A2 (m - (i + 1 + 1)) c2)) (HO6.out.nx ((Nx.refl w6).alloc (.cells #[.string (B tx), .bool true, .slice A2 (m - (i + 1 + 1)) c2] 96))) (HTD.out.nx ((Nx.refl w6).alloc _)) (fun g hg => by have h := HTB.out g hg; exact ⟨h.1, by have h6 := h.2.1; simp at h6 ⊢; omega, h.2.2⟩) hgr7 (by simpa using hbl7) hown7)
                  obtain ⟨A7, c7, he7⟩ := HO7.out.form
                  rw [List.length_append, List.length_singleton] at he7
                  subst he7
                  have m0 : w7.cell? ⟨w.heap.size + 1 + 1, 0, none⟩ = some (.string (B nm0)) := HM7.out.cell 0 _ rfl
                  have m1 : w7.cell? ⟨w.heap.size + 1 + 1, 1, none⟩ = some (.slice Ap qs.length cp) := HM7.out.cell 1 _ rfl
                  have m2 : w7.cell? ⟨w.heap.size + 1 + 1, 2, none⟩ = some (.slice none 0 0) := HM7.out.cell 2 _ rfl
                  have fm1 := HM7.out.free 1
                  have zm := HM7.out.lt
                  have HM8 := Lib.hid (show Has (w7.setCell ⟨w.heap.size + 1 + 1, 1, none⟩ (.slice A7 (qs.length + 1) c7)) (w.heap.size + 1 + 1) (.cells #[.string (B nm0), .slice A7 (qs.length + 1) c7, .slice none 0 0] 49) from HM7.out.put 1 (.slice A7 (qs.length + 1) c7))
                  have HO8 := Lib.hid (HO7.out.set_ (p := ⟨w.heap.size + 1 + 1, 1, none⟩) (Nat.lt_succ_self _) (.slice A7 (qs.length + 1) c7))
                  have HX8 := Lib.hid (HX7.out.setCell (p := ⟨w.heap.size + 1 + 1, 1, none⟩) (by show W.heap.size ≤ _; rw [HZ.out]; exact Nat.le_refl _) (.slice A7 (qs.length + 1) c7))
                  clear hown7 hgr7 hbl7 hA pi hz0 hz1 hz2
                  have hr := HR0.out.nx HX7.out
                  have hf := HF0.out.nx HX7.out
                  have r0 : w7.cell? ⟨w.heap.size, 0, none⟩ = some (.string (B [])) := hr.cell 0 _ rfl
                  have r1 : w7.cell? ⟨w.heap.size, 1, none⟩ = some (.slice none 0 0) := hr.cell 1 _ rfl
                  have r2 : w7.cell? ⟨w.heap.size, 2, none⟩ = some (.slice none 0 0) := hr.cell 2 _ rfl
                  have f0 := hr.free 0
                  have f1 := hr.free 1
                  have f2 := hr.free 2
                  have zr := hr.lt
                  have s0 : w7.cell? ⟨w.heap.size + 1, 0, none⟩ = some (.int .i64 0) := hf.cell 0 _ rfl
                  have s1 : w7.cell? ⟨w.heap.size + 1, 1, none⟩ = some (.int .i64 0) := hf.cell 1 _ rfl
                  have s2 : w7.cell? ⟨w.heap.size + 1, 2, none⟩ = some (.int .i64 0) := hf.cell 2 _ rfl
                  have g0 := hf.free 0
                  have g1 := hf.free 1
                  have g2 := hf.free 2
                  have zf := hf.lt
                  have HWB := Lib.hid (HWN.out.trans HX8.out)
                  clear hr hf
                  go_wp2
                  refine bodyPost_ret (v := .tuple #[.agg #[.string (B nm0), .slice A7 (qs.length + 1) c7, .slice none 0 0], .agg #[.int .i64 0, .int .i64 0, .int .i64 0]]) (by simp [results, Tryd.results28, go_sem, r0, r1, r2, f0, f1, f2, s0, s1, s2, g0, g1, g2]) rfl ?_
                  exact ⟨nm0, _, qs ++ [(⟨tx, true, ((l.drop (i + 2)).take k)⟩, Value.slice A2 (m - (i + 1 + 1)) c2)], _, _, _, rfl, by repeat (with_reducible first | exact HWB.out | refine Nx.setCell ?_ (by first | exact Nat.le_refl _ | exact Nat.le_succ _) _), Or.inl ⟨HVE.out, rfl, rfl, rfl, OwnR.parsQ (base := w.heap.size + 1 + 1 + 1) (by repeat (with_reducible first | exact HO8.out | refine OwnR.set_ ?_ (by first | (show w.heap.size < _; omega) | (show w.heap.size + 1 < _; omega)) _))⟩⟩
                · skip
                  have hts : Toks w (.slice (some ⟨ga, oa + (i + 1 + 1) * 6, none⟩) (m - (i + 1 + 1)) (c - (i + 1 + 1))) ((l.drop (i + 2)).take k) := by have h1 := toks_mid HT.out (i + 2) m hnm hml; rw [HMID.out] at h1; exact h1
                  have hW5 : Nx wr (w4.setCell ⟨wr.heap.size, 1, none⟩ (.bool true)) := KN4.out.setCell (p := ⟨wr.heap.size, 1, none⟩) (Nat.le_refl _) _
                  have hs0 := (toks_src (hts.nx ((HWN.out.trans (HXr.out.trans hW5)).alloc (.cells #[] 58)))).2.2.2
                  rw [show ((l.drop (i + 2)).take k).length = m - (i + 1 + 1) from HLEN.out] at hs0
                  have HS := Lib.hid hs0
                  have HW5 := Lib.hid hW5
                  have HM0 := Lib.hid (show OwnC ((w4.setCell ⟨wr.heap.size, 1, none⟩ (.bool true)).alloc (.cells #[] 58)) w4.heap.size 58 6 (.slice (some ⟨w4.heap.size, 0, none⟩) 0 0) 0 [] from by
                    have h := OwnC.made (w4.setCell ⟨wr.heap.size, 1, none⟩ (.bool true)) w4.heap.size 58 6 #[] 0 (by simp) (by unfold maxLen; omega) (by simp)
                    rw [show (w4.setCell ⟨wr.heap.size, 1, none⟩ (.bool true)).heap.size = w4.heap.size by simp] at h
                    exact h)
                  have HS1 := Lib.hid (show (toksC ((l.drop (i + 2)).take k)).length = (m - (i + 1 + 1)) * 6 from by rw [toksC_len, HLEN.out])
                  have HS2 := Lib.hid (toksC_one ((l.drop (i + 2)).take k))
                  have HQ5 := Lib.hid ((HQ4.out.put 1 (.bool true)).alloc (.cells #[] 58))
                  have hdm : decide ((m : Int) ≥ l.length) = false := decide_eq_false (by omega)
                  obtain ⟨hj, hj0, hj1, hj2⟩ := HJ.out
                  clear hs0 hts hW5
                  go_wp2_with (at_builtin; refine wpList_append_c _ rfl _ _ 37 rfl w4.heap.size 58 j0 _ 6 56 Tryd.underlying37 hj hj0 hj1 hj2 rfl (by decide) _ _ _ rfl HM0.out (some ⟨ga, oa + (i + 1 + 1) * 6, none⟩) (m - (i + 1 + 1)) (c - (i + 1 + 1)) (toksC ((l.drop (i + 2)).take k)) rfl HS1.out HS.out HS2.out ?teb3c ?teb4c ?teb5c ?_)
                  case teb3c => unfold maxLen; omega
                  case teb4c => omega
                  case teb5c => simp
                  intro v2 w2 hown2 hgr2 hbl2
                  have hown2 : OwnC w2 w4.heap.size 58 6 v2 (m - (i + 1 + 1)) (toksC ((l.drop (i + 2)).take k)) := by first | exact hown2 | (have := hown2; simp at this ⊢; exact this)
                  rw [← show ((l.drop (i + 2)).take k).length = m - (i + 1 + 1) from HLEN.out] at hown2
                  have K2 := Lib.hid (show Nx wr w2 from Below.grown (HW5.out.alloc _) hgr2 (by have := HW5.out.size; simp at this ⊢; omega) (fun k hk => by have := (HM0.out.lt k hk).1; have := KN4.out.size; omega))
                  have HTK := Lib.hid (own_fresh (Nat.le_refl _) hown2)
                  have HQ2 := Lib.hid (HQ5.out.keep_grown hgr2 (fun e => by have := (HM0.out.lt _ e).1; have := HQ4.out.lt; omega))
                  obtain ⟨A2, c2, rfl, _⟩ := HTK.out.1.form
                  rw [HLEN.out] at HTK
                  rw [HLEN.out]
                  have p2 : w2.cell? ⟨wr.heap.size, 2, none⟩ = some (.slice none 0 0) := HQ2.out.cell 2 _ rfl
                  have f2 := HQ2.out.free 2
                  have zp := HQ2.out.lt
                  clear hown2 hgr2 hbl2 p0 p1 f1
                  go_upto_region 22 with fail
                  obtain ⟨w6, hw6⟩ : ∃ w6, w2.setCell ⟨wr.heap.size, 2, none⟩ (.slice A2 (m - (i + 1 + 1)) c2) = w6 := ⟨_, rfl⟩
                  rw [hw6]
                  have K6 := Lib.hid (show Nx wr w6 from hw6 ▸ K2.out.setCell (p := ⟨wr.heap.size, 2, none⟩) (Nat.le_refl _) (.slice A2 (m - (i + 1 + 1)) c2))
                  have HQ6 := Lib.hid (show Has w6 wr.heap.size (.cells #[.string (B tx), .bool true, .slice A2 (m - (i + 1 + 1)) c2] 96) from hw6 ▸ HQ2.out.put 2 (.slice A2 (m - (i + 1 + 1)) c2))
                  have HTD := Lib.hid (show Toks w6 (.slice A2 (m - (i + 1 + 1)) c2) ((l.drop (i + 2)).take k) from by
                    rw [← hw6]
                    exact toks_block HTK.out.1 fun g hg => Below.heap_setCell w2 _ _ g (fun e => by have h1 := (HTK.out.2 g hg).1; have h2 := HQ4.out.lt; have h3 : g = wr.heap.size := e; omega))
                  have HTB := Lib.hid (fun g (hg : (Value.slice A2 (m - (i + 1 + 1)) c2).ownBlock = some g) => (show w.heap.size + 1 + 1 + 1 ≤ g ∧ g < w6.heap.size ∧ (Value.slice Ap qs.length cp).ownBlock ≠ some g from by
                    have h1 := HTK.out.2 g hg
                    have h2 := HQ4.out.lt
                    have h3 : w6.heap.size = w2.heap.size := by rw [← hw6]; simp
                    have h4 := HMr.out.lt
                    refine ⟨by omega, by omega, fun e => ?_⟩
                    have := (HOr.out.1.lt g e).2
                    omega))
                  have HX6 := Lib.hid (HXr.out.trans K6.out)
                  have HM6 := Lib.hid (HMr.out.nx K6.out)
                  have HO6 := Lib.hid (HOr.out.nx K6.out)
                  clear hw6 p2 f2 zp HQ2 HTK K2 HM0 HS HS1 HS2 HQ5 HW5 HQ4 HQ3
                  have p0 : w6.cell? ⟨wr.heap.size, 0, none⟩ = some (.string (B tx)) := HQ6.out.cell 0 _ rfl
                  have p1 : w6.cell? ⟨wr.heap.size, 1, none⟩ = some (.bool true) := HQ6.out.cell 1 _ rfl
                  have p2 : w6.cell? ⟨wr.heap.size, 2, none⟩ = some (.slice A2 (m - (i + 1 + 1)) c2) := HQ6.out.cell 2 _ rfl
                  have zp := HQ6.out.lt
                  have m1 : w6.cell? ⟨w.heap.size + 1 + 1, 1, none⟩ = some (.slice Ap qs.length cp) := HM6.out.cell 1 _ rfl
                  have zm := HM6.out.lt
                  have HVM := Lib.hid (show parT l nm0 (m + 1) ((qs ++ [((⟨tx, true, ((l.drop (i + 2)).take k)⟩ : PPar), Value.slice A2 (m - (i + 1 + 1)) c2)]).map (·.1)) = V from by
                    have h := HP5.out
                    rw [if_pos (by omega)] at h
                    rw [h, List.map_append]; rfl)
                  obtain ⟨⟨kd3, ln3, cl3, tx3, nm3, sc3⟩, ht3, hm3⟩ := HCA.out hml3
                  have HMK := Lib.hid hm3
                  have HT3 := Lib.hid (fun w' (h : Nx w w') => (HTA.out.nx h).at_ m _ ht3)
                  have hmI : (m : Int) < l.length := by omega
                  clear ht3 hm3
                  obtain ⟨pi, hz0, hz1, hz2⟩ := HI.out
                  have hA := Lib.hid (HO6.out.1.alloc (.cells #[.string (B tx), .bool true, .slice A2 (m - (i + 1 + 1)) c2] 96))
                  go_wp2_with (at_builtin; refine wpList_append_c _ rfl _ _ 47 rfl (w.heap.size + 1 + 1 + 1) 96 i0 _ 3 48 Tryd.underlying47 pi hz0 hz1 hz2 rfl (by decide) _ _ _ rfl hA.out (some ⟨w6.heap.size, 0, none⟩) 1 1 [.string (B tx), .bool true, .slice A2 (m - (i + 1 + 1)) c2] rfl rfl (Or.inr ⟨_, rfl, ?ue1c⟩) ?ue2c ?ue3c ?ue4c ?ue5c ?_)
                  try (case ue1c => (have h := six_at w6 [.string (B tx), .bool true, .slice A2 (m - (i + 1 + 1)) c2] 96; first | exact h | simpa using h))
                  case ue2c => simp [Value.oneCell']
                  case ue3c => unfold maxLen; omega
                  case ue4c => omega
                  case ue5c => (have h6 := HX6.out.size; have h7 := HZ.out; simp at h6 ⊢; omega)
                  intro v7 w7 hown7 hgr7 hbl7
                  have HX7 := Lib.hid (show Nx W w7 from Below.grown (HX6.out.alloc _) hgr7 (by have h6 := HX6.out.size; simp at h6 ⊢; omega) (fun k hk => by have := (hA.out.lt k hk).1; have := HZ.out; omega))
                  have HM7 := Lib.hid ((HM6.out.alloc (.cells #[.string (B tx), .bool true, .slice A2 (m - (i + 1 + 1)) c2] 96)).keep_grown hgr7 (fun e => by have := (hA.out.lt _ e).1; omega))
                  have HO7 := Lib.hid (OwnR.push (q := (⟨tx, true, ((l.drop (i + 2)).take k)⟩, Value.slice A2 (m - (i + 1 + 1)) c2)) (HO6.out.nx ((Nx.refl w6).alloc (.cells #[.string (B tx), .bool true, .slice A2 (m - (i + 1 + 1)) c2] 96))) (HTD.out.nx ((Nx.refl w6).alloc _)) (fun g hg => by have h := HTB.out g hg; exact ⟨h.1, by have h6 := h.2.1; simp at h6 ⊢; omega, h.2.2⟩) hgr7 (by simpa using hbl7) hown7)
                  obtain ⟨A7, c7, he7⟩ := HO7.out.form
                  rw [List.length_append, List.length_singleton] at he7
                  subst he7
                  have m0 : w7.cell? ⟨w.heap.size + 1 + 1, 0, none⟩ = some (.string (B nm0)) := HM7.out.cell 0 _ rfl
                  have m1 : w7.cell? ⟨w.heap.size + 1 + 1, 1, none⟩ = some (.slice Ap qs.length cp) := HM7.out.cell 1 _ rfl
                  have m2 : w7.cell? ⟨w.heap.size + 1 + 1, 2, none⟩ = some (.slice none 0 0) := HM7.out.cell 2 _ rfl
                  have fm1 := HM7.out.free 1
                  have zm := HM7.out.lt
                  have HM8 := Lib.hid (show Has (w7.setCell ⟨w.heap.size + 1 + 1, 1, none⟩ (.slice A7 (qs.length + 1) c7)) (w.heap.size + 1 + 1) (.cells #[.string (B nm0), .slice A7 (qs.length + 1) c7, .slice none 0 0] 49) from HM7.out.put 1 (.slice A7 (qs.length + 1) c7))
                  have HO8 := Lib.hid (HO7.out.set_ (p := ⟨w.heap.size + 1 + 1, 1, none⟩) (Nat.lt_succ_self _) (.slice A7 (qs.length + 1) c7))
                  have HX8 := Lib.hid (HX7.out.setCell (p := ⟨w.heap.size + 1 + 1, 1, none⟩) (by show W.heap.size ≤ _; rw [HZ.out]; exact Nat.le_refl _) (.slice A7 (qs.length + 1) c7))
                  clear hown7 hgr7 hbl7 hA pi hz0 hz1 hz2
                  obtain ⟨c0, c1, c2, c3, c4, c5⟩ := HT3.out _ (HWN.out.trans HX7.out)
                  (try dsimp only at c0 c1 c2 c3 c4 c5)
                  have y2 := block_lt c0
                  go_wp2_with fail
                  refine (markr_is ⟨kd3, ln3, cl3, tx3, nm3, sc3⟩ [44] true _ HMK.out).mono ?_
                  rintro e w9 ⟨rfl, hn9⟩
                  have HX9 := Lib.hid (HX8.out.trans hn9)
                  have HM9 := Lib.hid (HM8.out.nx hn9)
                  have HO9 := Lib.hid (HO8.out.nx hn9)
                  clear hn9 m0 m1 m2 fm1 zm c0 c1 c2 c3 c4 c5 y2
                  go_wp2
                  go_roundw
                  case rel => exact ⟨m + 1, _, _, by go_num, by omega, by omega, by rw [List.length_append, List.length_singleton]; omega, HX9.out, HM9.out, HO9.out, Or.inl ⟨Or.inl (by omega), HVM.out⟩⟩
                  case measure => simp [intOf]; omega

end Go.Proofs.YtbkgdepblaibkaaDoor

