/- Package typecaselaw13: the walks of BlockBehind and BlockWithin. -/
import Derived.Test.YtbkgdepblaibkaaDoorLawe
namespace Go.Proofs.YtbkgdepblaibkaaDoor
open Go.RowKit
set_option linter.unusedVariables false
set_option linter.unusedSimpArgs false

/-- The numbers that the law asks of an end. -/
theorem within_plain (ls : List (List Tok)) (a e x : Int) (h : endP ls a = .ok e x) : decide (e ≤ a) = false ∧ decide ((ls.length : Int) ≤ e) = false ∧ (((x != -1) = false) ∨ ((x != -1) = true ∧ decide (x ≤ a) = false ∧ decide (e ≤ x) = false)) := by
  obtain ⟨h1, h2, h3⟩ := endP_bounds ls a e x h
  refine ⟨decide_eq_false (by omega), decide_eq_false (by omega), ?_⟩
  by_cases hx : x = -1
  · exact Or.inl (by simpa using hx)
  · exact Or.inr ⟨by simpa using hx, decide_eq_false (by omega), decide_eq_false (by omega)⟩

set_option maxHeartbeats 4000000 in
set_option maxRecDepth 100000 in
theorem BlockWithin_walk (w0 : World) (hE : ErrT w0) (v : Value) (ls : List (List Tok)) (hL : Lins w0 v ls) (hbd : ∀ l ∈ ls, ∀ t ∈ l, TokBd t) (hs : ls.length ≤ 140737488351232 ∧ ∀ l ∈ ls, l.length ≤ 140737488351232) (a b : Int) :
    Calls Tryd.prog 5 #[v, .int .i64 a, .int .i64 b] w0 fun e w' => e = .returned (.bool true) ∧ Nx w0 w' := by
  have HE := Lib.hid hE
  have HL := Lib.hid hL
  obtain ⟨A, c, rfl, hc1, hc2, _⟩ := hL.form
  have CL := Lib.hid (fun w (h : Nx w0 w) => light_any _ ls w (HL.out.nx h) hs)
  clear hE hL hbd
  cases hl : decide (lightN ls ≤ 600)
  · rw [hl] at CL
    clear hl
    go_enter Tryd.func5, Tryd.ntmps5
    go_wp2_with fail
    refine (awakee_any _ HE.out).mono ?_
    rintro e w1 ⟨rfl, hn1⟩
    have H1 := Lib.hid hn1
    clear hn1
    go_wp2_with fail
    refine (CL.out _ H1.out).mono ?_
    rintro e w2 ⟨rfl, rfl⟩
    go_wp2
    go_ret
    exact ⟨rfl, H1.out⟩
  · rw [hl] at CL
    have hsm : ls.length ≤ 1000000 := by have := of_decide_eq_true hl; unfold lightN at this; omega
    clear hl
    have C1 := Lib.hid (fun w (h : Nx w0 w) => end_any _ ls a w (HE.out.nx h) (HL.out.nx h) hsm)
    have C2 := Lib.hid (fun w (h : Nx w0 w) => end_any _ ls b w (HE.out.nx h) (HL.out.nx h) hsm)
    have HW := Lib.hid (fun e x (h : endP ls a = .ok e x) => within_plain ls a e x h)
    have HX := Lib.hid (fun e x k y (h : endP ls a = .ok e x) (h2 : endP ls b = .ok k y) (h3 : a < b) (h4 : b < e) => endP_within ls a b e x k y h h2 h3 h4)
    generalize endP ls a = V at *
    generalize endP ls b = V2 at *
    go_enter Tryd.func5, Tryd.ntmps5
    go_wp2_with fail
    refine (awakee_any _ HE.out).mono ?_
    rintro e w1 ⟨rfl, hn1⟩
    have H1 := Lib.hid hn1
    clear hn1
    go_wp2_with fail
    refine (CL.out _ H1.out).mono ?_
    rintro e w2 ⟨rfl, rfl⟩
    go_wp2_with fail
    refine (C1.out _ H1.out).mono ?_
    rintro e w2 ⟨x, y, u, rfl, hn2, hres⟩
    have H2 := Lib.hid (H1.out.trans hn2)
    clear hn2
    rcases hres with ⟨hV, rfl⟩ | ⟨fl, fc, hV, rfl, rfl, hF⟩
    · obtain ⟨k1, k2, k3⟩ := HW.out x y hV
      have HX2 := Lib.hid (fun k z (h2 : V2 = .ok k z) (h3 : a < b) (h4 : b < x) => HX.out x y k z hV h2 h3 h4)
      clear hV HX HW
      have go1 : ∀ {P : Prop}, ((y != -1) = false → P) → ((y != -1) = true ∧ decide (y ≤ a) = false ∧ decide (x ≤ y) = false → P) → P := fun h1 h2 => k3.elim h1 h2
      rcases k3 with k3 | ⟨k3, k4, k5⟩
      all_goals
        clear go1
        go_wp2_with fail
        refine (C2.out _ H2.out).mono ?_
        rintro e w3 ⟨x2, y2, u2, rfl, hn3, hres⟩
        have H3 := Lib.hid (H2.out.trans hn3)
        clear hn3
        rcases hres with ⟨hV2, rfl⟩ | ⟨fl2, fc2, hV2, rfl, rfl, hF2⟩
        · have HK := Lib.hid (fun h3 h4 => HX2.out x2 y2 hV2 h3 h4)
          clear hV2 HX2
          by_cases h3 : a < b
          · by_cases h4 : b < x
            · have d1 : decide (b ≤ a) = false := decide_eq_false (by omega)
              have d2 : decide (x ≤ b) = false := decide_eq_false (by omega)
              have d3 : decide (x2 < x) = true := decide_eq_true (HK.out h3 h4)
              clear h3 h4
              go_wp2
              go_ret
              exact ⟨rfl, H3.out⟩
            · have d1 : decide (b ≤ a) = false := decide_eq_false (by omega)
              have d2 : decide (x ≤ b) = true := decide_eq_true (by omega)
              clear h3 h4
              go_wp2
              go_ret
              exact ⟨rfl, H3.out⟩
          · have d1 : decide (b ≤ a) = true := decide_eq_true (by omega)
            clear h3
            go_wp2
            go_ret
            exact ⟨rfl, H3.out⟩
        · obtain ⟨g, o, rfl, _⟩ := hF2
          clear hV2 HX2
          go_wp2
          go_ret
          exact ⟨rfl, H3.out⟩
    · obtain ⟨g, o, rfl, _⟩ := hF
      clear hV HX HW
      go_wp2
      go_ret
      exact ⟨rfl, H2.out⟩

/-! ### BlockBehind -/

/-- The lines' values. -/
theorem lins_cells {w : World} {v : Value} {ls : List (List Tok)} (h : Lins w v ls) : ∃ (A : Option Addr) (c : Nat) (us : List Value), v = .slice A ls.length c ∧ ls.length ≤ c ∧ c ≤ maxLen ∧ us.length = ls.length ∧ (∀ (k : Nat) (u : Value) (l : List Tok), us[k]? = some u → ls[k]? = some l → Toks w u l) ∧
    ((A = none ∧ ls.length = 0 ∧ c = 0) ∨ ∃ ad, A = some ad ∧ (0 < ls.length → ad.spot = none) ∧ ∀ (j : Nat) (u : Value), us[j]? = some u → w.cell? (ad.add j) = some u) := by
  rcases h with ⟨⟨A, rfl⟩, rfl⟩ | ⟨g, o, c, rfl, h2, h3, h4⟩
  · refine ⟨A, 0, [], rfl, Nat.le_refl _, Nat.zero_le _, rfl, fun k u l hu => (by cases hu), ?_⟩
    cases A with
    | none => exact Or.inl ⟨rfl, rfl, rfl⟩
    | some a => exact Or.inr ⟨a, rfl, fun h => absurd h (by simp), fun j u hu => by cases hu⟩
  · have each : ∀ k, k < ls.length → ∃ u, w.cell? ⟨g, o + k, none⟩ = some u ∧ ∀ l, ls[k]? = some l → Toks w u l := by
      intro k hk
      obtain ⟨u, hu, ht⟩ := h4 k _ (List.getElem?_eq_getElem hk)
      refine ⟨u, hu, fun l hl => ?_⟩
      rw [List.getElem?_eq_getElem hk] at hl
      injection hl with hl
      subst hl
      exact ht
    obtain ⟨us, hlen, hp⟩ := list_of each
    refine ⟨_, c, us, rfl, h2, h3, hlen, fun k u l hu hl => (hp k u hu).2 l hl, Or.inr ⟨_, rfl, fun _ => rfl, fun j u hu => ?_⟩⟩
    rw [add_flat]
    exact (hp j u hu).1

theorem toks_one {w : World} {u : Value} {l : List Tok} (h : Toks w u l) : u.oneCell' = true := by
  obtain ⟨A, c, rfl, _⟩ := h.form
  rfl

theorem own_lins {w : World} {base : Nat} {v : Value} {ls : List (List Tok)} {us : List Value} (h : OwnC w base 37 1 v ls.length us) (ht : ∀ (k : Nat) (u : Value) (l : List Tok), us[k]? = some u → ls[k]? = some l → Toks w u l) : Lins w v ls := by
  have hlen : us.length = ls.length := by have := h.1; omega
  rcases h.2 with ⟨hv, h0⟩ | ⟨g, cap, cur, hv, hb, hg, h3, h4, h5, h6⟩
  · exact Or.inl ⟨⟨none, by rw [hv]⟩, List.eq_nil_of_length_eq_zero h0⟩
  · refine Or.inr ⟨g, 0, cap, hv, h3, h4, fun k l hk => ?_⟩
    have hlt := (List.getElem?_eq_some_iff.1 hk).1
    have hu : us[k]? = some (us[k]'(by omega)) := List.getElem?_eq_getElem (by omega)
    refine ⟨_, ?_, ht k _ l hu hk⟩
    rw [Nat.zero_add]
    exact h.cells (g := g) (by rw [hv]; rfl) k _ hu

theorem joint_toks {w : World} {ls ms : List (List Tok)} {us xs : List Value} (hu : us.length = ls.length) (h1 : ∀ (k : Nat) (u : Value) (l : List Tok), us[k]? = some u → ls[k]? = some l → Toks w u l) (h2 : ∀ (k : Nat) (u : Value) (l : List Tok), xs[k]? = some u → ms[k]? = some l → Toks w u l) :
    ∀ (k : Nat) (u : Value) (l : List Tok), (us ++ xs)[k]? = some u → (ls ++ ms)[k]? = some l → Toks w u l := by
  intro k u l hk hl
  rw [List.getElem?_append] at hk hl
  by_cases h : k < ls.length
  · rw [if_pos (by omega)] at hk
    rw [if_pos h] at hl
    exact h1 k u l hk hl
  · rw [if_neg (by omega)] at hk
    rw [if_neg h] at hl
    rw [hu] at hk
    exact h2 _ u l hk hl

set_option maxHeartbeats 8000000 in
set_option maxRecDepth 100000 in
theorem BlockBehind_walk (w0 : World) (hE : ErrT w0) (v : Value) (ls : List (List Tok)) (hL : Lins w0 v ls) (hbd : ∀ l ∈ ls, ∀ t ∈ l, TokBd t) (hs : ls.length ≤ 140737488351232 ∧ ∀ l ∈ ls, l.length ≤ 140737488351232) (a : Int)
    (v2 : Value) (ms : List (List Tok)) (hM : Lins w0 v2 ms) (hbd2 : ∀ l ∈ ms, ∀ t ∈ l, TokBd t) (hs2 : ms.length ≤ 140737488351232 ∧ ∀ l ∈ ms, l.length ≤ 140737488351232) :
    Calls Tryd.prog 4 #[v, .int .i64 a, v2] w0 fun e w' => e = .returned (.bool true) ∧ Nx w0 w' := by
  obtain ⟨i0, hi, hz0, hz1, hz2⟩ := info_parts toks_info
  have HI := Lib.hid (And.intro hi (And.intro hz0 (And.intro hz1 hz2)))
  clear hi hz0 hz1 hz2
  have HE := Lib.hid hE
  have HL := Lib.hid hL
  have HM := Lib.hid hM
  obtain ⟨A, c, us, rfl, hc1, hc2, hul, hut, huc⟩ := lins_cells hL
  obtain ⟨A2, c2, xs, rfl, hd1, hd2, hxl, hxt, hxc⟩ := lins_cells hM
  have HUL := Lib.hid hul
  have HUT := Lib.hid hut
  have HUC := Lib.hid huc
  have HXL := Lib.hid hxl
  have HXT := Lib.hid hxt
  have HXC := Lib.hid hxc
  have CL := Lib.hid (fun w (h : Nx w0 w) => light_any _ ls w (HL.out.nx h) hs)
  have CM := Lib.hid (fun w (h : Nx w0 w) => light_any _ ms w (HM.out.nx h) hs2)
  clear hE hL hM hbd hbd2 hul hut huc hxl hxt hxc
  unfold maxLen at hc2 hd2
  cases hl : decide (lightN ls ≤ 600)
  · rw [hl] at CL
    clear hl
    go_enter Tryd.func4, Tryd.ntmps4
    go_wp2_with fail
    refine (awakee_any _ HE.out).mono ?_
    rintro e w1 ⟨rfl, hn1⟩
    have H1 := Lib.hid hn1
    clear hn1
    go_wp2_with fail
    refine (CL.out _ H1.out).mono ?_
    rintro e w2 ⟨rfl, rfl⟩
    go_wp2
    go_ret
    exact ⟨rfl, H1.out⟩
  · cases hm : decide (lightN ms ≤ 600)
    · rw [hl] at CL
      rw [hm] at CM
      clear hl hm
      go_enter Tryd.func4, Tryd.ntmps4
      go_wp2_with fail
      refine (awakee_any _ HE.out).mono ?_
      rintro e w1 ⟨rfl, hn1⟩
      have H1 := Lib.hid hn1
      clear hn1
      go_wp2_with fail
      refine (CL.out _ H1.out).mono ?_
      rintro e w2 ⟨rfl, rfl⟩
      go_wp2_with fail
      refine (CM.out _ H1.out).mono ?_
      rintro e w2 ⟨rfl, rfl⟩
      go_wp2
      go_ret
      exact ⟨rfl, H1.out⟩
    · rw [hl] at CL
      rw [hm] at CM
      have hsm : ls.length ≤ 600 := by have := of_decide_eq_true hl; unfold lightN at this; omega
      have hsm2 : ms.length ≤ 600 := by have := of_decide_eq_true hm; unfold lightN at this; omega
      clear hl hm hs hs2
      have C1 := Lib.hid (fun w (h : Nx w0 w) => end_any _ ls a w (HE.out.nx h) (HL.out.nx h) (by omega))
      have HB := Lib.hid (fun e x (h : endP ls a = .ok e x) => endP_behind ls ms a e x h)
      generalize endP ls a = V at *
      go_enter Tryd.func4, Tryd.ntmps4
      go_wp2_with fail
      refine (awakee_any _ HE.out).mono ?_
      rintro e w1 ⟨rfl, hn1⟩
      have H1 := Lib.hid hn1
      clear hn1
      go_wp2_with fail
      refine (CL.out _ H1.out).mono ?_
      rintro e w2 ⟨rfl, rfl⟩
      go_wp2_with fail
      refine (CM.out _ H1.out).mono ?_
      rintro e w2 ⟨rfl, rfl⟩
      go_wp2_with fail
      refine (C1.out _ H1.out).mono ?_
      rintro e w2 ⟨x, y, u, rfl, hn2, hres⟩
      have H2 := Lib.hid (H1.out.trans hn2)
      clear hn2
      rcases hres with ⟨hV, rfl⟩ | ⟨fl, fc, hV, rfl, rfl, hF⟩
      · obtain ⟨k1, k2, k3⟩ := HB.out x y hV
        obtain ⟨E, rfl⟩ := Int.eq_ofNat_of_zero_le k1
        rw [Int.toNat_natCast] at k3
        have HK := Lib.hid k3
        have hEl : E < ls.length := by omega
        clear k1 k2 k3 hV HB
        obtain ⟨ad, rfl, hsp, hcells⟩ : ∃ ad, A = some ad ∧ (0 < ls.length → ad.spot = none) ∧ ∀ (j : Nat) (u : Value), us[j]? = some u → w0.cell? (ad.add j) = some u := by
          rcases HUC.out with ⟨_, h, _⟩ | h
          · omega
          · exact h
        obtain ⟨g, o, sp⟩ := ad
        obtain rfl : sp = none := hsp (by omega)
        have HCE := Lib.hid hcells
        have d1 : decide ((E : Int) < 0) = false := decide_eq_false (by omega)
        have d2 : decide ((ls.length : Int) ≤ E) = false := decide_eq_false (by omega)
        have hEI : (E : Int) < ls.length := by omega
        have hE1 : E + 1 ≤ c := by omega
        clear hcells hsp
        have HM0 := Lib.hid (OwnC.made w2 w0.heap.size 37 1 #[] 0 H2.out.size (by unfold maxLen; omega) (by simp))
        obtain ⟨hi, hz0, hz1, hz2⟩ := HI.out
        have HT1 := Lib.hid (show (us.take (E + 1)).length = (E + 1) * 1 by rw [List.length_take, HUL.out]; omega)
        have HT2 := Lib.hid (show ∀ u ∈ us.take (E + 1), u.oneCell' = true from fun u hu => by
          obtain ⟨k, hk⟩ := List.getElem?_of_mem (List.mem_of_mem_take hu)
          have hlt : k < ls.length := by have := (List.getElem?_eq_some_iff.1 hk).1; have := HUL.out; omega
          exact toks_one (HUT.out k u _ hk (List.getElem?_eq_getElem hlt)))
        have HT3 := Lib.hid (show ∀ (j : Nat) (u : Value), (us.take (E + 1))[j]? = some u → (w2.alloc (.cells #[] 37)).cell? ((⟨g, o, none⟩ : Addr).add j) = some u from fun j u hj => by
          have h1 : us[j]? = some u := by
            rw [List.getElem?_take] at hj
            split at hj
            · exact hj
            · cases hj
          exact (H2.out.alloc _).cell (HCE.out j u h1))
        go_wp2_with (at_builtin; refine wpList_append_c _ rfl _ _ 22 rfl w0.heap.size 37 i0 (.slice none 0 0) 1 24 Tryd.underlying22 hi hz0 hz1 hz2 rfl (by decide) _ _ _ rfl HM0.out (some ⟨g, o, none⟩) (E + 1) c (us.take (E + 1)) rfl HT1.out (Or.inr ⟨_, rfl, HT3.out⟩) HT2.out ?c3 ?c4 ?c5 ?_)
        case c3 => unfold maxLen; omega
        case c4 => omega
        case c5 => have := H2.out.size; simp; omega
        intro v3 w3 hown3 hgr3 hbl3
        have hown3 : OwnC w3 w0.heap.size 37 1 v3 (E + 1) (us.take (E + 1)) := by first | exact hown3 | (have := hown3; simp at this ⊢; exact this)
        have H3 := Lib.hid (show Nx w0 w3 from Below.grown (H2.out.alloc _) hgr3 (by have := H2.out.size; simp; omega) (fun k hk => (HM0.out.lt k hk).1))
        have HO3 := Lib.hid hown3
        have HX3 := Lib.hid (show (A2 = none ∧ ms.length = 0 ∧ c2 = 0) ∨ ∃ ad, A2 = some ad ∧ ∀ (j : Nat) (u : Value), xs[j]? = some u → w3.cell? (ad.add j) = some u from by
          rcases HXC.out with h | ⟨ad, h1, _, h2⟩
          · exact Or.inl h
          · exact Or.inr ⟨ad, h1, fun j u hj => H3.out.cell (h2 j u hj)⟩)
        have HT4 := Lib.hid (show ∀ u ∈ xs, u.oneCell' = true from fun u hu => by
          obtain ⟨k, hk⟩ := List.getElem?_of_mem hu
          have hlt : k < ms.length := by have := (List.getElem?_eq_some_iff.1 hk).1; have := HXL.out; omega
          exact toks_one (HXT.out k u _ hk (List.getElem?_eq_getElem hlt)))
        have HT5 := Lib.hid (show xs.length = ms.length * 1 by rw [HXL.out]; omega)
        clear hown3 hgr3 hbl3
        go_wp2_with (at_builtin; refine wpList_append_c _ rfl _ _ 22 rfl w0.heap.size 37 i0 (.slice none 0 0) 1 24 Tryd.underlying22 hi hz0 hz1 hz2 rfl (by decide) _ _ _ rfl HO3.out A2 ms.length c2 xs rfl HT5.out HX3.out HT4.out ?d3 ?d4 ?d5 ?_)
        case d3 => unfold maxLen; omega
        case d4 => omega
        case d5 => exact H3.out.size
        intro v4 w4 hown4 hgr4 hbl4
        have H4 := Lib.hid (show Nx w0 w4 from Below.grown H3.out hgr4 H3.out.size (fun k hk => (HO3.out.lt k hk).1))
        have hlen : (ls.take (E + 1) ++ ms).length = E + 1 + ms.length := by rw [List.length_append, List.length_take]; omega
        have HL4 := Lib.hid (show Lins w4 v4 (ls.take (E + 1) ++ ms) from own_lins (base := w0.heap.size) (us := us.take (E + 1) ++ xs) (by rw [hlen]; exact hown4) (joint_toks (by rw [List.length_take, List.length_take, HUL.out]) (fun k u l h1 h2 => (HUT.out k u l (take_some _ _ _ _ h1) (take_some _ _ _ _ h2)).nx H4.out) (fun k u l h1 h2 => (HXT.out k u l h1 h2).nx H4.out)))
        have C3 := end_any v4 (ls.take (E + 1) ++ ms) a w4 (HE.out.nx H4.out) HL4.out (by rw [hlen]; omega)
        rw [HK.out] at C3
        have C3 := Lib.hid C3
        have b1 : ((E : Int) == E) = true := by simp
        have b2 : (y == y) = true := by simp
        clear hown4 hgr4 hbl4 hlen
        go_wp2_with fail
        refine C3.out.mono ?_
        rintro e w5 ⟨x5, y5, u5, rfl, hn5, ⟨h5, rfl⟩ | ⟨l5, c5, h5, _⟩⟩
        · cases h5
          have H5 := Lib.hid (H4.out.trans hn5)
          clear hn5
          go_wp2
          go_ret
          exact ⟨rfl, H5.out⟩
        · cases h5
      · obtain ⟨g, o, rfl, _⟩ := hF
        clear hV HB
        go_wp2
        go_ret
        exact ⟨rfl, H2.out⟩

end Go.Proofs.YtbkgdepblaibkaaDoor
