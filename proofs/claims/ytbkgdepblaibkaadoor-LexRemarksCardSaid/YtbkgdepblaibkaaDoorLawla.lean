/- Package typecaselaw10: the walk of LexLines. -/
import Derived.Test.YtbkgdepblaibkaaDoorLawl
import Derived.Test.YtbkgdepblaibkaaDoorQuiet
namespace Go.Proofs.YtbkgdepblaibkaaDoor
open Go.RowKit
set_option linter.unusedVariables false
set_option linter.unusedSimpArgs false

/-- Bytes as they are appended from. -/
theorem bys_src {w : World} {v : Value} {l : List UInt8} (h : Bys w v l) : ∃ A c, v = .slice A l.length c ∧ l.length ≤ c ∧ c ≤ maxLen ∧ ((A = none ∧ l.length = 0 ∧ c = 0) ∨ ∃ ad, A = some ad ∧ ∀ (j : Nat) (u : Value), (bysC l)[j]? = some u → w.cell? (ad.add j) = some u) := by
  obtain ⟨A, c, rfl, h1, h2, h3⟩ := h.form
  refine ⟨A, c, rfl, h1, h2, ?_⟩
  rcases h3 with ⟨rfl, rfl⟩ | ⟨g, o, rfl, h3⟩
  · cases A with
    | none => exact Or.inl ⟨rfl, rfl, rfl⟩
    | some a => exact Or.inr ⟨a, rfl, fun j u hu => by cases hu⟩
  · refine Or.inr ⟨_, rfl, fun j u hu => ?_⟩
    rw [add_flat]
    unfold bysC at hu
    rw [List.getElem?_map] at hu
    cases hj : l[j]? with
    | none => rw [hj] at hu; cases hu
    | some b => rw [hj] at hu; cases hu; exact h3 j b hj

theorem bysC_one (l : List UInt8) : ∀ u ∈ bysC l, u.oneCell' = true := by
  intro u hu
  unfold bysC at hu
  obtain ⟨b, _, rfl⟩ := List.mem_map.1 hu
  rfl

theorem bysC_len (l : List UInt8) : (bysC l).length = l.length := by unfold bysC; simp

theorem own_bys {w : World} {base : Nat} {v : Value} {l : List UInt8} (h : OwnC w base 5 1 v l.length (bysC l)) : Bys w v l := by
  rcases h.2 with ⟨hv, h0⟩ | ⟨g, cap, cur, hv, hb, hg, h3, h4, h5, h6⟩
  · exact Or.inl ⟨⟨none, by rw [hv]⟩, List.eq_nil_of_length_eq_zero h0⟩
  · refine Or.inr ⟨g, 0, cap, by rw [hv], h3, h4, fun k b hk => ?_⟩
    rw [Nat.zero_add]
    refine h.cells (g := g) (by rw [hv]; rfl) k _ ?_
    unfold bysC
    rw [List.getElem?_map, hk]; rfl

theorem conv_bys {w : World} {v : Value} {l : List UInt8} (h : Bys w v l) : (convert 70 9 v).run Tryd.prog w = .ok (.string (B l)) w := by
  rcases h with ⟨⟨A, rfl⟩, rfl⟩ | ⟨g, o, c, rfl, h1, h2, h3⟩
  · exact conv_none w A
  · have := conv_head w g o c l.length l h3 (Nat.le_refl _)
    rwa [List.take_length] at this

set_option maxHeartbeats 1000000 in
set_option maxRecDepth 100000 in
theorem LexLines_walk (w0 : World) (hE : ErrT w0) (v : Value) (l : List UInt8) (hB : Bys w0 v l) (hs : l.length ≤ 140737488351232) :
    Calls Tryd.prog 11 #[v] w0 fun e w' => e = .returned (.bool true) ∧ Nx w0 w' := by
  obtain ⟨i0, hi, hz0, hz1, hz2⟩ := info_parts byte_info
  have HI := Lib.hid (And.intro hi (And.intro hz0 (And.intro hz1 hz2)))
  clear hi hz0 hz1 hz2
  have HE := Lib.hid hE
  have HB := Lib.hid hB
  obtain ⟨A, c, rfl, hc1, hc2, hA⟩ := bys_src hB
  have HA := Lib.hid hA
  clear hE hB hA
  unfold maxLen at hc2
  have four : (decide ((2000 : Int) < l.length) = true ∧ decide ((l.length : Int) ≤ 65536) = true) ∨ (decide ((2000 : Int) < l.length) = true ∧ decide ((l.length : Int) ≤ 65536) = false ∧ decide ((70000 : Int) < l.length) = true) ∨ (decide ((2000 : Int) < l.length) = true ∧ decide ((l.length : Int) ≤ 65536) = false ∧ decide ((70000 : Int) < l.length) = false ∧ l.length ≤ 70000) ∨ (decide ((2000 : Int) < l.length) = false ∧ decide ((70000 : Int) < l.length) = false ∧ l.length ≤ 70000) := by
    by_cases k1 : 2000 < l.length
    · by_cases k2 : l.length ≤ 65536
      · exact Or.inl ⟨decide_eq_true (by omega), decide_eq_true (by omega)⟩
      · by_cases k3 : 70000 < l.length
        · exact Or.inr (Or.inl ⟨decide_eq_true (by omega), decide_eq_false (by omega), decide_eq_true (by omega)⟩)
        · exact Or.inr (Or.inr (Or.inl ⟨decide_eq_true (by omega), decide_eq_false (by omega), decide_eq_false (by omega), by omega⟩))
    · exact Or.inr (Or.inr (Or.inr ⟨decide_eq_false (by omega), decide_eq_false (by omega), by omega⟩))
  rcases four with ⟨d1, d2⟩ | ⟨d1, d2, d3⟩ | four
  rotate_left 2
  · have CE := Lib.hid (fun v2 w (hE : ErrT w) (hB : Bys w v2 l) => (show Calls Tryd.prog 42 #[v2] w (RetLinesE (srcR l) w) from if h : l.length ≤ 65536 then llines_any v2 l w hE hB h else llines_long v2 l w hB (by omega)))
    have CR := Lib.hid (fun w (hB : Bys w (.slice A l.length c) l) => (show Calls Tryd.prog 43 #[.slice A l.length c] w (RetLines (srcR l) w) from if h : l.length ≤ 65536 then lines_any _ l w hB h else lines_long _ l w hB (by omega)))
    generalize srcR l = V at *
    have go : ∀ (hl7 : l.length ≤ 70000), (decide ((2000 : Int) < l.length) = true ∧ decide ((l.length : Int) ≤ 65536) = false ∨ decide ((2000 : Int) < l.length) = false) → decide ((70000 : Int) < l.length) = false → Calls Tryd.prog 11 #[.slice A l.length c] w0 fun e w' => e = .returned (.bool true) ∧ Nx w0 w' := by
      intro hl7 hd d3
      rcases hd with ⟨d1, d2⟩ | d1
      all_goals
        go_enter Tryd.func11, Tryd.ntmps11
        go_wp2_with fail
        refine (awakel_any _ HE.out).mono ?_
        rintro e w1 ⟨rfl, hn1⟩
        have H1 := Lib.hid hn1
        clear hn1
        have HM0 := Lib.hid (OwnC.made w1 w0.heap.size 5 1 #[] 0 H1.out.size (by unfold maxLen; omega) (by simp))
        obtain ⟨hi, hz0, hz1, hz2⟩ := HI.out
        have HT1 := Lib.hid (show (bysC l).length = l.length * 1 by rw [bysC_len]; omega)
        have HT2 := Lib.hid (bysC_one l)
        have HT3 := Lib.hid (show (A = none ∧ l.length = 0 ∧ c = 0) ∨ ∃ ad, A = some ad ∧ ∀ (j : Nat) (u : Value), (bysC l)[j]? = some u → (w1.alloc (.cells #[] 5)).cell? (ad.add j) = some u from by
          rcases HA.out with h | ⟨ad, h1, h2⟩
          · exact Or.inl h
          · exact Or.inr ⟨ad, h1, fun j u hj => (H1.out.alloc _).cell (h2 j u hj)⟩)
        go_wp2_with (at_builtin; refine wpList_append_c _ rfl _ _ 70 rfl w0.heap.size 5 i0 (.int .u8 0) 1 1 Tryd.underlying70 hi hz0 hz1 hz2 rfl (by decide) _ _ _ rfl HM0.out A l.length c (bysC l) rfl HT1.out HT3.out HT2.out ?c3 ?c4 ?c5 ?_)
        case c3 => unfold maxLen; omega
        case c4 => omega
        case c5 => have := H1.out.size; simp; omega
        intro v3 w3 hown3 hgr3 hbl3
        have hown3 : OwnC w3 w0.heap.size 5 1 v3 l.length (bysC l) := by first | exact hown3 | (have := hown3; simp at this ⊢; exact this)
        have H3 := Lib.hid (show Nx w0 w3 from Below.grown (H1.out.alloc _) hgr3 (by have := H1.out.size; simp; omega) (fun k hk => (HM0.out.lt k hk).1))
        have HB3 := Lib.hid (own_bys hown3)
        clear hown3 hgr3 hbl3
        go_wp2_with fail
        refine (CE.out v3 _ (HE.out.nx H3.out) HB3.out).mono ?_
        rintro e w4 ⟨u4, ev, rfl, hn4, hres4⟩
        have H4 := Lib.hid (H3.out.trans hn4)
        have HB4 := Lib.hid (HB3.out.nx hn4)
        have HR4 := Lib.hid hres4
        clear hn4 hres4
        go_wp2_with fail
        refine (CR.out _ (HB.out.nx H4.out)).mono ?_
        rintro e w5 ⟨u5, fa, fb, fc, rfl, hn5, hres5⟩
        have H5 := Lib.hid (H4.out.trans hn5)
        have HB5 := Lib.hid (HB4.out.nx hn5)
        have HFA := Lib.hid (show ((∃ ls, Lins w5 u4 ls ∧ Lins w5 u5 ls ∧ ev = .nilIface ∧ fa = 0 ∧ fb = 0 ∧ fc = 0) ∨ (u4 = .slice none 0 0 ∧ u5 = .slice none 0 0 ∧ FaultIs w5 ev fa fb fc ∧ 1 ≤ fc ∧ fc ≤ 16)) from by
          rcases HR4.out with ⟨ls, h1, h2, h3⟩ | ⟨a1, b1, c1, h1, h2, h3, h4, h5⟩
          · rcases hres5 with ⟨ls2, k1, k2, k3, k4, k5⟩ | ⟨k1, _⟩
            · rw [h1] at k1; cases k1
              exact Or.inl ⟨ls, h2.nx hn5, k2, h3, k3, k4, k5⟩
            · rw [h1] at k1; cases k1
          · rcases hres5 with ⟨ls2, k1, _⟩ | ⟨k1, k2, _⟩
            · rw [h1] at k1; cases k1
            · rw [h1] at k1; cases k1
              exact Or.inr ⟨h2, k2, h3.nx hn5, h4, h5⟩)
        have HS := Lib.hid (fun w (h : Nx w5 w) => (show Calls Tryd.prog 31 #[u4, u5] w (fun e w' => e = .returned (.bool true) ∧ Nx w w') from by
          rcases HFA.out with ⟨ls, h1, h2, _⟩ | ⟨h1, h2, _⟩
          · exact same_any u4 u5 ls w (h1.nx h) (h2.nx h)
          · subst h1 h2
            exact same_any _ _ [] w (Or.inl ⟨⟨none, rfl⟩, rfl⟩) (Or.inl ⟨⟨none, rfl⟩, rfl⟩)))
        have HF := Lib.hid (fun w (h : Nx w5 w) => (show Calls Tryd.prog 21 #[ev] w (fun e w' => e = .returned (.agg #[.int .i64 fa, .int .i64 fb, .int .i64 fc]) ∧ Nx w w') from by
          rcases HFA.out with ⟨ls, _, _, h3, h4, h5, h6⟩ | ⟨_, _, h3, h4, h5⟩
          · subst h3 h4 h5 h6
            exact fault_nil w
          · exact fault_is ev fa fb fc w ((HE.out.nx H5.out).nx h) (h3.nx h) h4 h5))
        have HC1 := Lib.hid (fun w (h : Nx w5 w) => conv_bys (HB5.out.nx h))
        have HC2 := Lib.hid (fun w (h : Nx w5 w) => conv_bys ((HB.out.nx H5.out).nx h))
        have q2 := fun w => eql_fl fa fb fc w
        have ql : (l == l) = true := by simp
        clear hn5 hres5
        go_wp2
        (refine wp_region_nx 16 (by kernel_rfl) (by kernel_rfl) ?_; simp only [List.take_succ_cons, List.take_zero, List.drop_succ_cons, List.drop_zero]; (repeat (refine wpQuiet_step (fun K hK => ?_); go_simp; first | (refine hK _ ?_; clear hK K) | (apply Exists.intro; refine ⟨fun w' hw' => ?_, hK _ ?_⟩; (first | (with_reducible rfl) | (go_at_call 31; with_reducible exact (HS.out _ (((Nx.refl w5).alloc _).trans hw')).mono fun _ _ h => ⟨h.1, hw'.trans h.2⟩) | (go_at_call 21; with_reducible exact (HF.out _ (((Nx.refl w5).alloc _).trans hw')).mono fun _ _ h => ⟨h.1, hw'.trans h.2⟩) | (rw [HC1.out w' (((Nx.refl w5).alloc _).trans hw')]; exact ⟨rfl, rfl⟩) | (rw [HC2.out w' (((Nx.refl w5).alloc _).trans hw')]; exact ⟨rfl, rfl⟩) | (obtain ⟨hc, hf⟩ := nx_cells hw'; go_simp; with_reducible rfl) | (obtain ⟨hc, hf⟩ := nx_cells hw'; go_simp; rfl)); clear hK K))); refine wpQuiet_nil ?_; intro w9 hn9)
        have H9 := Lib.hid ((H5.out.alloc _).trans hn9)
        clear hn9
        go_wp2
        go_ret
        exact ⟨rfl, H9.out⟩
    rcases four with ⟨d1, d2, d3, hl7⟩ | ⟨d1, d3, hl7⟩
    · exact go hl7 (Or.inl ⟨d1, d2⟩) d3
    · exact go hl7 (Or.inr d1) d3
  all_goals
    go_enter Tryd.func11, Tryd.ntmps11
    go_wp2_with fail
    refine (awakel_any _ HE.out).mono ?_
    rintro e w1 ⟨rfl, hn1⟩
    have H1 := Lib.hid hn1
    clear hn1
    go_wp2
    go_ret
    exact ⟨rfl, H1.out⟩

end Go.Proofs.YtbkgdepblaibkaaDoor
