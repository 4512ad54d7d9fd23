/- Contracts of package macro: own, Parts. -/
import Derived.Test.YtbkgdepblaibkaaDoorMacx
import Derived.Test.YtbkgdepblaibkaaDoorRtj
namespace Go.Proofs.YtbkgdepblaibkaaDoor
open Go.RowKit
set_option linter.unusedVariables false
set_option linter.unusedSimpArgs false

theorem toksC_one (l : List Tok) : ∀ u ∈ toksC l, u.oneCell' = true := by
  intro u hu
  unfold toksC at hu
  obtain ⟨t, _, h⟩ := List.mem_flatMap.1 hu
  simp only [tokC, List.mem_cons, List.not_mem_nil, or_false] at h
  rcases h with rfl | rfl | rfl | rfl | rfl | rfl <;> rfl

theorem toksC_inv (ts : List Tok) (j : Nat) (u : Value) (h : (toksC ts)[j]? = some u) : ∃ k t i, j = k * 6 + i ∧ ts[k]? = some t ∧ (tokC t)[i]? = some u := by
  have hj := (List.getElem?_eq_some_iff.1 h).1
  rw [toksC_len] at hj
  have hk : j / 6 < ts.length := by omega
  obtain ⟨t, ht⟩ : ∃ t, ts[j / 6]? = some t := ⟨_, List.getElem?_eq_getElem hk⟩
  have hi : j % 6 < (tokC t).length := by simp [tokC]; omega
  obtain ⟨x, hx⟩ : ∃ x, (tokC t)[j % 6]? = some x := ⟨_, List.getElem?_eq_getElem hi⟩
  have := toksC_at ts (j / 6) t ht (j % 6) x hx
  rw [show j / 6 * 6 + j % 6 = j by omega, h] at this
  cases this
  exact ⟨j / 6, t, j % 6, by omega, ht, hx⟩

/-- Tokens as they are appended from. -/
theorem toks_src {w : World} {A : Option Addr} {n c : Nat} {l : List Tok} (h : Toks w (.slice A n c) l) : n = l.length ∧ l.length ≤ c ∧ c ≤ maxLen ∧ ((A = none ∧ l.length = 0 ∧ c = 0) ∨ ∃ ad, A = some ad ∧ ∀ (j : Nat) (u : Value), (toksC l)[j]? = some u → w.cell? (ad.add j) = some u) := by
  obtain ⟨A', c', he, h1, h2, h3⟩ := h.form
  cases he
  refine ⟨rfl, h1, h2, ?_⟩
  rcases h3 with ⟨_, rfl, rfl⟩ | ⟨g, o, rfl, h3⟩
  · cases A with
    | none => exact Or.inl ⟨rfl, rfl, rfl⟩
    | some a => exact Or.inr ⟨a, rfl, fun j u hu => by cases hu⟩
  · refine Or.inr ⟨_, rfl, fun j u hu => ?_⟩
    obtain ⟨k, t, i, rfl, hk, hi⟩ := toksC_inv l j u hu
    rw [add_flat, show o + (k * 6 + i) = o + k * 6 + i by omega]
    exact h3 k t hk i u hi

/-- v[:n]. -/
theorem toks_head {w : World} {A : Option Addr} {m c : Nat} {l : List Tok} (h : Toks w (.slice A m c) l) (n : Nat) (hn : n ≤ l.length) : Toks w (.slice A n c) (l.take n) := by
  obtain ⟨A', c', he, h1, h2, h3⟩ := h.form
  cases he
  have hl : (l.take n).length = n := by rw [List.length_take]; omega
  rcases h3 with ⟨_, rfl, rfl⟩ | ⟨g, o, rfl, h3⟩
  · have : n = 0 := by simpa using hn
    subst this
    exact Or.inl ⟨⟨A, rfl⟩, rfl⟩
  · refine Or.inr ⟨g, o, c, by rw [hl], by omega, h2, fun k t hk => h3 k t ?_⟩
    rw [List.getElem?_take] at hk
    split at hk
    · exact hk
    · cases hk

/-- v[a:b], the block's end not reached. -/
theorem toks_mid {w : World} {g o m c : Nat} {l : List Tok} (h : Toks w (.slice (some ⟨g, o, none⟩) m c) l) (a b : Nat) (hab : a ≤ b) (hb : b ≤ l.length) : Toks w (.slice (some ⟨g, o + a * 6, none⟩) (b - a) (c - a)) ((l.take b).drop a) := by
  obtain ⟨A', c', he, h1, h2, h3⟩ := h.form
  cases he
  have hl : ((l.take b).drop a).length = b - a := by rw [List.length_drop, List.length_take]; omega
  rcases h3 with ⟨_, rfl, rfl⟩ | ⟨g', o', he, h3⟩
  · have : b = 0 := by simpa using hb
    subst this
    have : a = 0 := by omega
    subst this
    exact Or.inl ⟨⟨_, rfl⟩, rfl⟩
  · cases he
    refine Or.inr ⟨g, o + a * 6, c - a, by rw [hl], by omega, by omega, fun k t hk => ?_⟩
    rw [List.getElem?_drop, List.getElem?_take] at hk
    split at hk
    · have := h3 (a + k) t hk
      rwa [show o + (a + k) * 6 = o + a * 6 + k * 6 by omega] at this
    · cases hk

theorem toks_empty (w : World) (A : Option Addr) : Toks w (.slice A 0 0) [] := Or.inl ⟨⟨A, rfl⟩, rfl⟩

/-- Tokens in new memory. -/
def RetToks (l : List Tok) (w : World) (e : Ending) (w' : World) : Prop := ∃ A c, e = .returned (.slice A l.length c) ∧ Nx w w' ∧ Toks w' (.slice A l.length c) l ∧ ∀ g, (Value.slice A l.length c).ownBlock = some g → w.heap.size ≤ g ∧ g < w'.heap.size

set_option maxHeartbeats 1000000 in
theorem own_any (v : Value) (l : List Tok) (w : World) (hT : Toks w v l) (hl : l.length ≤ 100000000) : Calls Tryd.prog 53 #[v] w (RetToks l w) := by
  obtain ⟨i0, hi, hz0, hz1, hz2⟩ := info_parts tok_info
  obtain ⟨A, c, rfl, _⟩ := hT.form
  obtain ⟨_, hc1, hc2, hA⟩ := toks_src hT
  have HA := Lib.hid hA
  have HL := Lib.hid (toksC_len l)
  have HO := Lib.hid (toksC_one l)
  clear hT hA
  go_enter Tryd.func53, Tryd.ntmps53
  go_wp2_with (at_builtin; refine wpList_append_c _ rfl _ _ 37 rfl w.heap.size 58 i0 _ 6 56 Tryd.underlying37 hi hz0 hz1 hz2 rfl (by decide) _ _ _ rfl (OwnC.nil _ _ _ 6) A l.length c (toksC l) rfl HL.out HA.out HO.out ?c3 ?c4 ?c5 ?_)
  case c3 => unfold maxLen at *; omega
  case c4 => omega
  intro v3 w3 hown3 hgr3 hbl3
  have H3 := Lib.hid (show Nx w w3 from Below.grown (Nx.refl w) hgr3 (Nat.le_refl _) (fun k hk => by cases hk))
  have HT3 := Lib.hid (own_fresh (Nat.le_refl _) hown3)
  obtain ⟨A3, c3, rfl, _⟩ := HT3.out.1.form
  clear hown3 hgr3 hbl3
  go_wp2
  go_ret
  exact ⟨_, _, rfl, H3.out, HT3.out.1, HT3.out.2⟩

theorem OwnL.toLen {w : World} {base : Nat} {v : Value} {ls : List (List Tok)} (h : OwnL w base v ls) : ls.length ≤ maxLen := by
  obtain ⟨A, c, _, h1, h2, _⟩ := h.lins.form
  omega

/-- Lines in new memory. -/
def RetParts (ls : List (List Tok)) (w : World) (e : Ending) (w' : World) : Prop := ∃ v, e = .returned v ∧ Nx w w' ∧ OwnL w' w.heap.size v ls

/-- What holds at a round's head. -/
def PartRel (l0 : List Tok) (w wr : World) (lv pv : Value) : Prop :=
  ∃ (n : Nat) (ls : List (List Tok)), n ≤ l0.length ∧ Toks w lv (l0.drop n) ∧ OwnL wr w.heap.size pv ls ∧ ls ++ partT (l0.drop n) = partT l0 ∧ ls.length ≤ n ∧ Nx w wr

/-- A slice's length. -/
def lenV : Value → Nat
  | .slice _ n _ => n
  | _ => 0

theorem nil_info : (Tryd.prog.info? 37).map (fun i => (i.zero, i.size, i.bytes)) = some (some (.slice none 0 0), 1, 24) := toks_info

set_option maxHeartbeats 4000000 in
set_option maxRecDepth 100000 in
theorem parts_any (v : Value) (l0 : List Tok) (w : World) (hT : Toks w v l0) (hl : l0.length ≤ 100000000) : Calls Tryd.prog 32 #[v] w (RetParts (partP l0) w) := by
  obtain ⟨i0, hi, hz0, hz1, hz2⟩ := info_parts toks_info
  have HI := Lib.hid (And.intro hi (And.intro hz0 (And.intro hz1 hz2)))
  clear hi hz0 hz1 hz2
  obtain ⟨A0, c0, rfl, _⟩ := hT.form
  have HT0 := Lib.hid hT
  clear hT
  by_cases hl0 : l0 = []
  · subst hl0
    simp only [List.length_nil]
    go_enter Tryd.func32, Tryd.ntmps32
    go_wp2
    go_ret
    exact ⟨_, rfl, Nx.refl _, OwnL.nil _ _⟩
  have hne : 0 < l0.length := List.length_pos_iff.2 hl0
  have hz : ((l0.length : Int) == 0) = false := by simp; omega
  have HP := Lib.hid (show partP l0 = partT l0 by unfold partP; rw [if_neg hl0])
  clear hl0
  go_enter Tryd.func32, Tryd.ntmps32
  go_wp2
  go_loopw [0, 3] (fun lv pv wr => PartRel l0 w wr lv pv) (fun lv _ _ => lenV lv)
  case atStart => exact ⟨0, [], Nat.zero_le _, by rw [List.drop_zero]; exact HT0.out, OwnL.nil _ _, by rw [List.drop_zero]; rfl, Nat.zero_le _, Nx.refl w⟩
  case round =>
    obtain ⟨n, ls, hn, hT, hO, hP, hln, hnx⟩ := hrel
    have HNX := Lib.hid hnx
    have HO := Lib.hid hO
    obtain ⟨Av, cv, rfl⟩ := hO.form
    obtain ⟨l, hld⟩ : ∃ l, l0.drop n = l := ⟨_, rfl⟩
    rw [hld] at hT hP
    have HPP := Lib.hid hP
    have hml : l.length + n = l0.length := by rw [← hld, List.length_drop]; omega
    have HLD := Lib.hid hld
    have HT := Lib.hid hT
    obtain ⟨A, c, rfl, hc1, hc2, hA⟩ := hT.form
    have hk := comN_le l 0
    have HD := Lib.hid (partT_cons l)
    have HE := Lib.hid (partT_one l)
    have CP := part_any _ _ _ (HT.out.nx HNX.out)
    obtain ⟨k, hkd⟩ : ∃ k, comN 0 l = k := ⟨_, rfl⟩
    rw [hkd] at hk CP HD HE
    have CP := Lib.hid CP
    have htl : (l.take k).length = k := by rw [List.length_take]; omega
    have CO := Lib.hid (fun w2 (h : Nx w w2) => (show Calls Tryd.prog 53 #[.slice A k c] w2 (fun e w' => ∃ A c, e = .returned (.slice A k c) ∧ Nx w2 w' ∧ Toks w' (.slice A k c) (l.take k) ∧ ∀ g, (Value.slice A k c).ownBlock = some g → w2.heap.size ≤ g ∧ g < w'.heap.size) from by
      have := own_any _ _ w2 ((toks_head HT.out k hk).nx h) (by rw [List.length_take]; omega)
      unfold RetToks at this
      rw [htl] at this
      exact this))
    have hshape : (l.length = 0 ∧ c = 0 ∧ k = 0) ∨ (∃ g o, A = some ⟨g, o, none⟩ ∧ (k = l.length ∨ (k < l.length ∧ (c = k + 1 ∨ k + 1 < c)))) := by
      rcases hA with ⟨_, h1, h2⟩ | ⟨g, o, h1, _⟩
      · left
        subst h1
        exact ⟨rfl, h2, by simpa using hk⟩
      · right
        refine ⟨g, o, h1, ?_⟩
        rcases Nat.lt_or_ge k l.length with h | h
        · exact Or.inr ⟨h, by omega⟩
        · exact Or.inl (by omega)
    have HH := Lib.hid hln
    unfold maxLen at hc2
    have hcm : c ≤ 9223372036854775807 := by omega
    clear hT hP hO hnx hA hc2 htl hkd hld
    rcases hshape with ⟨hl1, rfl, rfl⟩ | ⟨g, o, rfl, hend | ⟨hlt, rfl | hcc⟩⟩
    · obtain rfl : l = [] := List.eq_nil_of_length_eq_zero hl1
      have be : (((0 : Nat) : Int) == (([] : List Tok).length : Nat)) = true := rfl
      simp only [List.length_nil] at *
      go_wp2_with fail
      refine CP.out.mono ?_
      rintro e w1 ⟨rfl, hn1⟩
      have H1 := Lib.hid (HNX.out.trans hn1)
      have K1 := Lib.hid hn1
      clear hn1
      go_wp2_with fail
      refine (CO.out _ H1.out).mono ?_
      rintro e w2 ⟨A2, c2, rfl, hn2, hT2, hf2⟩
      have H2 := Lib.hid (H1.out.trans hn2)
      have K2 := Lib.hid (K1.out.trans hn2)
      obtain ⟨us, hus, husl, hus2⟩ := ((HO.out.nx K2.out).nx ((Nx.refl w2).alloc (.cells #[.slice A2 0 c2] 37))).parts
      have HU := Lib.hid hus
      have HU2 := Lib.hid hus2
      have HUL := Lib.hid husl
      have HTA := Lib.hid (hT2.nx ((Nx.refl w2).alloc (.cells #[.slice A2 0 c2] 37)))
      have HTB := Lib.hid (fun g (hg : (Value.slice A2 0 c2).ownBlock = some g) => (show w.heap.size ≤ g ∧ g < w2.heap.size + 1 ∧ (Value.slice Av ls.length cv).ownBlock ≠ some g from by
        obtain ⟨h1, h2⟩ := hf2 g hg
        have s1 := H1.out.size
        have s2 := K1.out.size
        refine ⟨by omega, by omega, fun e => ?_⟩
        have := (HO.out.lt g e).2
        omega))
      clear hus hus2 husl hn2 hT2 hf2
      obtain ⟨hi, hz0, hz1, hz2⟩ := HI.out
      go_wp2_with (at_builtin; refine wpList_append_c _ rfl _ _ 22 rfl w.heap.size 37 i0 (.slice none 0 0) 1 24 Tryd.underlying22 hi hz0 hz1 hz2 rfl (by decide) _ _ _ rfl HU.out (some ⟨w2.heap.size, 0, none⟩) 1 1 [.slice A2 0 c2] rfl rfl (Or.inr ⟨_, rfl, ?c1⟩) ?c2 ?c3 ?c4 ?c5 ?_)
      case c1 => exact six_at w2 [.slice A2 0 c2] 37
      case c2 => simp [Value.oneCell']
      case c3 => unfold maxLen; omega
      case c4 => omega
      case c5 => have := H2.out.size; simp; omega
      intro v3 w3 hown3 hgr3 hbl3
      have HX3 := Lib.hid (show Nx w w3 from Below.grown (H2.out.alloc _) hgr3 (by have := H2.out.size; simp; omega) (fun k hk => (HU.out.lt k hk).1))
      have HO3 := Lib.hid (OwnL.push HUL.out HU2.out HTA.out (by intro g hg; have := HTB.out g hg; simpa using this) hgr3 (by simpa using hbl3) hown3)
      clear hown3 hgr3 hbl3
      go_wp2
      go_ret
      exact ⟨_, rfl, HX3.out, by
        have h1 := HO3.out
        rw [List.take_of_length_le (by omega)] at h1
        rw [HP.out, ← HPP.out, HE.out (by first | rfl | omega | simp)]
        exact h1⟩
    · subst hend
      have be : ((l.length : Int) == (l.length : Nat)) = true := by simp
      go_wp2_with fail
      refine CP.out.mono ?_
      rintro e w1 ⟨rfl, hn1⟩
      have H1 := Lib.hid (HNX.out.trans hn1)
      have K1 := Lib.hid hn1
      clear hn1
      go_wp2_with fail
      refine (CO.out _ H1.out).mono ?_
      rintro e w2 ⟨A2, c2, rfl, hn2, hT2, hf2⟩
      have H2 := Lib.hid (H1.out.trans hn2)
      have K2 := Lib.hid (K1.out.trans hn2)
      obtain ⟨us, hus, husl, hus2⟩ := ((HO.out.nx K2.out).nx ((Nx.refl w2).alloc (.cells #[.slice A2 l.length c2] 37))).parts
      have HU := Lib.hid hus
      have HU2 := Lib.hid hus2
      have HUL := Lib.hid husl
      have HTA := Lib.hid (hT2.nx ((Nx.refl w2).alloc (.cells #[.slice A2 l.length c2] 37)))
      have HTB := Lib.hid (fun g (hg : (Value.slice A2 l.length c2).ownBlock = some g) => (show w.heap.size ≤ g ∧ g < w2.heap.size + 1 ∧ (Value.slice Av ls.length cv).ownBlock ≠ some g from by
        obtain ⟨h1, h2⟩ := hf2 g hg
        have s1 := H1.out.size
        have s2 := K1.out.size
        refine ⟨by omega, by omega, fun e => ?_⟩
        have := (HO.out.lt g e).2
        omega))
      clear hus hus2 husl hn2 hT2 hf2
      obtain ⟨hi, hz0, hz1, hz2⟩ := HI.out
      go_wp2_with (at_builtin; refine wpList_append_c _ rfl _ _ 22 rfl w.heap.size 37 i0 (.slice none 0 0) 1 24 Tryd.underlying22 hi hz0 hz1 hz2 rfl (by decide) _ _ _ rfl HU.out (some ⟨w2.heap.size, 0, none⟩) 1 1 [.slice A2 l.length c2] rfl rfl (Or.inr ⟨_, rfl, ?c1⟩) ?c2 ?c3 ?c4 ?c5 ?_)
      case c1 => exact six_at w2 [.slice A2 l.length c2] 37
      case c2 => simp [Value.oneCell']
      case c3 => unfold maxLen; omega
      case c4 => omega
      case c5 => have := H2.out.size; simp; omega
      intro v3 w3 hown3 hgr3 hbl3
      have HX3 := Lib.hid (show Nx w w3 from Below.grown (H2.out.alloc _) hgr3 (by have := H2.out.size; simp; omega) (fun k hk => (HU.out.lt k hk).1))
      have HO3 := Lib.hid (OwnL.push HUL.out HU2.out HTA.out (by intro g hg; have := HTB.out g hg; simpa using this) hgr3 (by simpa using hbl3) hown3)
      clear hown3 hgr3 hbl3
      go_wp2
      go_ret
      exact ⟨_, rfl, HX3.out, by
        have h1 := HO3.out
        rw [List.take_of_length_le (by omega)] at h1
        rw [HP.out, ← HPP.out, HE.out (by first | rfl | omega | simp)]
        exact h1⟩
    · have be : ((k : Int) == (l.length : Nat)) = false := by simp; omega
      have hlk : l.length = k + 1 := by omega
      have HLK := Lib.hid hlk
      clear hlk
      go_wp2_with fail
      refine CP.out.mono ?_
      rintro e w1 ⟨rfl, hn1⟩
      have H1 := Lib.hid (HNX.out.trans hn1)
      have K1 := Lib.hid hn1
      clear hn1
      go_wp2_with fail
      refine (CO.out _ H1.out).mono ?_
      rintro e w2 ⟨A2, c2, rfl, hn2, hT2, hf2⟩
      have H2 := Lib.hid (H1.out.trans hn2)
      have K2 := Lib.hid (K1.out.trans hn2)
      obtain ⟨us, hus, husl, hus2⟩ := ((HO.out.nx K2.out).nx ((Nx.refl w2).alloc (.cells #[.slice A2 k c2] 37))).parts
      have HU := Lib.hid hus
      have HU2 := Lib.hid hus2
      have HUL := Lib.hid husl
      have HTA := Lib.hid (hT2.nx ((Nx.refl w2).alloc (.cells #[.slice A2 k c2] 37)))
      have HTB := Lib.hid (fun g (hg : (Value.slice A2 k c2).ownBlock = some g) => (show w.heap.size ≤ g ∧ g < w2.heap.size + 1 ∧ (Value.slice Av ls.length cv).ownBlock ≠ some g from by
        obtain ⟨h1, h2⟩ := hf2 g hg
        have s1 := H1.out.size
        have s2 := K1.out.size
        refine ⟨by omega, by omega, fun e => ?_⟩
        have := (HO.out.lt g e).2
        omega))
      clear hus hus2 husl hn2 hT2 hf2
      obtain ⟨hi, hz0, hz1, hz2⟩ := HI.out
      go_wp2_with (at_builtin; refine wpList_append_c _ rfl _ _ 22 rfl w.heap.size 37 i0 (.slice none 0 0) 1 24 Tryd.underlying22 hi hz0 hz1 hz2 rfl (by decide) _ _ _ rfl HU.out (some ⟨w2.heap.size, 0, none⟩) 1 1 [.slice A2 k c2] rfl rfl (Or.inr ⟨_, rfl, ?c1⟩) ?c2 ?c3 ?c4 ?c5 ?_)
      case c1 => exact six_at w2 [.slice A2 k c2] 37
      case c2 => simp [Value.oneCell']
      case c3 => unfold maxLen; omega
      case c4 => omega
      case c5 => have := H2.out.size; simp; omega
      intro v3 w3 hown3 hgr3 hbl3
      have HX3 := Lib.hid (show Nx w w3 from Below.grown (H2.out.alloc _) hgr3 (by have := H2.out.size; simp; omega) (fun k hk => (HU.out.lt k hk).1))
      have HO3 := Lib.hid (OwnL.push HUL.out HU2.out HTA.out (by intro g hg; have := HTB.out g hg; simpa using this) hgr3 (by simpa using hbl3) hown3)
      clear hown3 hgr3 hbl3
      go_wp2
      go_roundw
      case rel =>
        refine ⟨n + (k + 1), ls ++ [l.take k], by omega, ?_, HO3.out, ?_, by rw [List.length_append, List.length_singleton]; omega, HX3.out⟩
        · rw [← List.drop_drop, HLD.out]
          rw [List.drop_eq_nil_of_le (by have := HLK.out; omega)]
          have e0 : l.length - (k + 1) = 0 := by have := HLK.out; omega
          exact toks_empty _ _
        · rw [← HPP.out, HD.out (by omega), ← List.drop_drop, HLD.out]; simp
      case measure => simp [lenV]; omega
    · have be : ((k : Int) == (l.length : Nat)) = false := by simp; omega
      have hcn : ¬ c = k + 1 := by omega
      go_wp2_with fail
      refine CP.out.mono ?_
      rintro e w1 ⟨rfl, hn1⟩
      have H1 := Lib.hid (HNX.out.trans hn1)
      have K1 := Lib.hid hn1
      clear hn1
      go_wp2_with fail
      refine (CO.out _ H1.out).mono ?_
      rintro e w2 ⟨A2, c2, rfl, hn2, hT2, hf2⟩
      have H2 := Lib.hid (H1.out.trans hn2)
      have K2 := Lib.hid (K1.out.trans hn2)
      obtain ⟨us, hus, husl, hus2⟩ := ((HO.out.nx K2.out).nx ((Nx.refl w2).alloc (.cells #[.slice A2 k c2] 37))).parts
      have HU := Lib.hid hus
      have HU2 := Lib.hid hus2
      have HUL := Lib.hid husl
      have HTA := Lib.hid (hT2.nx ((Nx.refl w2).alloc (.cells #[.slice A2 k c2] 37)))
      have HTB := Lib.hid (fun g (hg : (Value.slice A2 k c2).ownBlock = some g) => (show w.heap.size ≤ g ∧ g < w2.heap.size + 1 ∧ (Value.slice Av ls.length cv).ownBlock ≠ some g from by
        obtain ⟨h1, h2⟩ := hf2 g hg
        have s1 := H1.out.size
        have s2 := K1.out.size
        refine ⟨by omega, by omega, fun e => ?_⟩
        have := (HO.out.lt g e).2
        omega))
      clear hus hus2 husl hn2 hT2 hf2
      obtain ⟨hi, hz0, hz1, hz2⟩ := HI.out
      go_wp2_with (at_builtin; refine wpList_append_c _ rfl _ _ 22 rfl w.heap.size 37 i0 (.slice none 0 0) 1 24 Tryd.underlying22 hi hz0 hz1 hz2 rfl (by decide) _ _ _ rfl HU.out (some ⟨w2.heap.size, 0, none⟩) 1 1 [.slice A2 k c2] rfl rfl (Or.inr ⟨_, rfl, ?c1⟩) ?c2 ?c3 ?c4 ?c5 ?_)
      case c1 => exact six_at w2 [.slice A2 k c2] 37
      case c2 => simp [Value.oneCell']
      case c3 => unfold maxLen; omega
      case c4 => omega
      case c5 => have := H2.out.size; simp; omega
      intro v3 w3 hown3 hgr3 hbl3
      have HX3 := Lib.hid (show Nx w w3 from Below.grown (H2.out.alloc _) hgr3 (by have := H2.out.size; simp; omega) (fun k hk => (HU.out.lt k hk).1))
      have HO3 := Lib.hid (OwnL.push HUL.out HU2.out HTA.out (by intro g hg; have := HTB.out g hg; simpa using this) hgr3 (by simpa using hbl3) hown3)
      clear hown3 hgr3 hbl3
      go_wp2
      go_roundw
      case rel =>
        refine ⟨n + (k + 1), ls ++ [l.take k], by omega, ?_, HO3.out, ?_, by rw [List.length_append, List.length_singleton]; omega, HX3.out⟩
        · rw [← List.drop_drop, HLD.out]
          have h1 := toks_mid HT.out (k + 1) l.length (by omega) (Nat.le_refl _)
          rw [List.take_length] at h1
          exact h1
        · rw [← HPP.out, HD.out (by omega), ← List.drop_drop, HLD.out]; simp
      case measure => simp [lenV]; omega

end Go.Proofs.YtbkgdepblaibkaaDoor
