/- Contracts of typecaseref14: Parts. -/
import Derived.Test.YtbkgdepblaibkaaDoorMacy
namespace Go.Proofs.YtbkgdepblaibkaaDoor
open Go.RowKit
set_option linter.unusedVariables false
set_option linter.unusedSimpArgs false

/-- What holds at a round's head. -/
def RPartRel (l0 : List Tok) (w wr : World) (ov fv : Value) : Prop :=
  ∃ (n : Nat) (ls : List (List Tok)), n ≤ l0.length ∧ fv = .int .i64 n ∧ OwnL wr w.heap.size ov ls ∧ ls ++ partT (l0.drop n) = partT l0 ∧ ls.length ≤ n ∧ Nx w wr

set_option maxHeartbeats 4000000 in
set_option maxRecDepth 100000 in
theorem rparts_any (v : Value) (l0 : List Tok) (w : World) (hT : Toks w v l0) (hl : l0.length ≤ 100000000) : Calls Tryd.prog 33 #[v] w (RetParts (partP l0) w) := by
  obtain ⟨i0, hi, hz0, hz1, hz2⟩ := info_parts toks_info
  have HI := Lib.hid (And.intro hi (And.intro hz0 (And.intro hz1 hz2)))
  clear hi hz0 hz1 hz2
  obtain ⟨j0, hj, hj0, hj1, hj2⟩ := info_parts tok_info
  have HJ := Lib.hid (And.intro hj (And.intro hj0 (And.intro hj1 hj2)))
  clear hj hj0 hj1 hj2
  have HT0 := Lib.hid hT
  obtain ⟨A, c, rfl, hc1, hc2, hA⟩ := hT.form
  clear hT
  by_cases hl0 : l0 = []
  · subst hl0
    clear hA
    simp only [List.length_nil]
    go_enter Tryd.func33, Tryd.ntmps33
    go_wp2
    go_ret
    exact ⟨_, rfl, Nx.refl _, OwnL.nil _ _⟩
  have hne : 0 < l0.length := List.length_pos_iff.2 hl0
  have hz : ((l0.length : Int) == 0) = false := by simp; omega
  have HP := Lib.hid (show partP l0 = partT l0 by unfold partP; rw [if_neg hl0])
  obtain ⟨g, o, rfl⟩ : ∃ g o, A = some ⟨g, o, none⟩ := by
    rcases hA with ⟨_, h1, _⟩ | ⟨g, o, h1, _⟩
    · exact absurd h1 hl0
    · exact ⟨g, o, h1⟩
  unfold maxLen at hc2
  have hcm : c ≤ 9223372036854775807 := by omega
  clear hl0 hA hc2
  go_enter Tryd.func33, Tryd.ntmps33
  go_wp2
  go_loopw [3, 4] (fun ov fv wr => RPartRel l0 w wr ov fv) (fun _ fv _ => l0.length + 1 - (intOf fv).toNat)
  case atStart => exact ⟨0, [], Nat.zero_le _, rfl, OwnL.nil _ _, by rw [List.drop_zero]; rfl, Nat.zero_le _, Nx.refl w⟩
  case round =>
    obtain ⟨n, ls, hn, rfl, hO, hP, hln, hnx⟩ := hrel
    have HNX := Lib.hid hnx
    have HO := Lib.hid hO
    have HPP := Lib.hid hP
    have HLN := Lib.hid hln
    obtain ⟨Av, cv, rfl⟩ := hO.form
    have hk := comN_le (l0.drop n) 0
    rw [List.length_drop] at hk
    have HD := Lib.hid (partT_cons (l0.drop n))
    have HE := Lib.hid (partT_one (l0.drop n))
    have CP := comma_any _ _ n _ (HT0.out.nx HNX.out) hn
    obtain ⟨k, hkd⟩ : ∃ k, comN 0 (l0.drop n) = k := ⟨_, rfl⟩
    rw [hkd] at hk CP HD HE
    obtain ⟨m, hm⟩ : ∃ m, n + k = m := ⟨_, rfl⟩
    rw [hm] at CP
    have CP := Lib.hid CP
    have hkm : k = m - n := by omega
    have hmid : ((l0.take m).drop n) = (l0.drop n).take k := by rw [List.drop_take, hkm]
    have hnm : n ≤ m := by omega
    have hml : m ≤ l0.length := by omega
    have hlen : ((l0.drop n).take k).length = m - n := by rw [List.length_take, List.length_drop]; omega
    have HLEN := Lib.hid hlen
    have HKM := Lib.hid hkm
    have HMID := Lib.hid hmid
    have three : (n = c ∧ n = m ∧ l0.length ≤ n) ∨ (n < c ∧ m = l0.length) ∨ (n < c ∧ m < l0.length) := by omega
    clear hO hP hnx hkd hm hkm hmid hlen hln hk
    have hnI : (n : Int) ≤ m := by omega
    have hmI : (m : Int) ≤ c := by omega
    rcases three with ⟨rfl, rfl, hend⟩ | ⟨hnc, rfl⟩ | ⟨hnc, hlt⟩
    · have HLEN := Lib.hid (show ((l0.drop n).take k).length = 0 from by have := HLEN.out; omega)
      have be : decide (l0.length ≤ n) = true := decide_eq_true (by omega)
      go_wp2_with fail
      refine CP.out.mono ?_
      rintro e w1 ⟨rfl, hn1⟩
      have H1 := Lib.hid (HNX.out.trans hn1)
      have K1 := Lib.hid hn1
      clear hn1
      have HM0 := Lib.hid (OwnC.made w1 w1.heap.size 58 6 #[] 0 (Nat.le_refl _) (by unfold maxLen; omega) (by simp))
      have hs0 := (toks_src ((show Toks w (.slice (some ⟨g, o, none⟩) 0 0) ((l0.drop n).take k) by rw [List.eq_nil_of_length_eq_zero (show ((l0.drop n).take k).length = 0 by rw [HLEN.out])]; exact toks_empty _ _).nx (H1.out.alloc (.cells #[] 58)))).2.2.2
      rw [HLEN.out] at hs0
      have HS := Lib.hid hs0
      clear hs0
      have HS1 := Lib.hid (show (toksC ((l0.drop n).take k)).length = 0 * 6 by rw [toksC_len, HLEN.out])
      have HS2 := Lib.hid (toksC_one ((l0.drop n).take k))
      obtain ⟨hj, hj0, hj1, hj2⟩ := HJ.out
      have tok1 : True := trivial
      go_wp2_with (at_builtin; have _t := tok1; refine wpList_append_c _ rfl _ _ 37 rfl w1.heap.size 58 j0 _ 6 56 Tryd.underlying37 hj hj0 hj1 hj2 rfl (by decide) _ _ _ rfl HM0.out (some ⟨g, o, none⟩) 0 0 (toksC ((l0.drop n).take k)) rfl HS1.out (Or.inr ⟨_, rfl, fun j u hj => by rw [List.eq_nil_of_length_eq_zero HLEN.out] at hj; cases hj⟩) HS2.out ?b3 ?b4 ?b5 ?_)
      case b3 => unfold maxLen; omega
      case b4 => omega
      case b5 => simp
      intro v2 w2 hown2 hgr2 hbl2
      clear tok1
      have hown2 : OwnC w2 w1.heap.size 58 6 v2 0 (toksC ((l0.drop n).take k)) := by first | exact hown2 | (have := hown2; simp at this ⊢; exact this)
      rw [← HLEN.out] at hown2
      have H2 := Lib.hid (show Nx w w2 from Below.grown (H1.out.alloc _) hgr2 (by have := H1.out.size; simp; omega) (fun k hk => by have := (HM0.out.lt k hk).1; have := H1.out.size; omega))
      have K2 := Lib.hid (show Nx wr w2 from Below.grown (K1.out.alloc _) hgr2 (by have := K1.out.size; simp; omega) (fun k hk => by have := (HM0.out.lt k hk).1; have := K1.out.size; omega))
      have HTK := Lib.hid (own_fresh (Nat.le_refl _) hown2)
      obtain ⟨A2, c2, rfl, _⟩ := HTK.out.1.form
      rw [HLEN.out] at HTK
      rw [HLEN.out]
      clear hown2 hgr2 hbl2
      obtain ⟨us, hus, husl, hus2⟩ := ((HO.out.nx K2.out).nx ((Nx.refl w2).alloc (.cells #[.slice A2 0 c2] 37))).parts
      have HU := Lib.hid hus
      have HU2 := Lib.hid hus2
      have HUL := Lib.hid husl
      have HTA := Lib.hid (HTK.out.1.nx ((Nx.refl w2).alloc (.cells #[.slice A2 0 c2] 37)))
      have HTB := Lib.hid (fun g (hg : (Value.slice A2 0 c2).ownBlock = some g) => (show w.heap.size ≤ g ∧ g < w2.heap.size + 1 ∧ (Value.slice Av ls.length cv).ownBlock ≠ some g from by
        obtain ⟨h1, h2⟩ := HTK.out.2 g hg
        have s1 := H1.out.size
        have s2 := K1.out.size
        refine ⟨by omega, by omega, fun e => ?_⟩
        have := (HO.out.lt g e).2
        omega))
      clear hus hus2 husl
      have hls : ls.length + 1 ≤ 1000000000 := by have := HLN.out; omega
      obtain ⟨hi, hz0, hz1, hz2⟩ := HI.out
      go_wp2_with (at_builtin; refine wpList_append_c _ rfl _ _ 22 rfl w.heap.size 37 i0 (.slice none 0 0) 1 24 Tryd.underlying22 hi hz0 hz1 hz2 rfl (by decide) _ _ _ rfl HU.out (some ⟨w2.heap.size, 0, none⟩) 1 1 [.slice A2 0 c2] rfl rfl (Or.inr ⟨_, rfl, ?c1⟩) ?c2 ?c3 ?c4 ?c5 ?_)
      case c1 => exact six_at w2 [.slice A2 0 c2] 37
      case c2 => simp [Value.oneCell']
      case c3 => unfold maxLen; omega
      case c4 => omega
      case c5 => have := H2.out.size; simp; omega
      intro v3 w3 hown3 hgr3 hbl3
      have HX3 := Lib.hid (show Nx w w3 from Below.grown (H2.out.alloc _) hgr3 (by have := H2.out.size; simp; omega) (fun k hk => (HU.out.lt k hk).1))
      have HO3 := Lib.hid (OwnL.push HUL.out HU2.out HTA.out (by intro g hg; have := HTB.out g hg; simpa using this) hgr3 (by simpa using hbl3) hown3)
      clear hown3 hgr3 hbl3
      go_wp2
      go_ret
      exact ⟨_, rfl, HX3.out, by
        have h1 := HO3.out
        rw [List.take_of_length_le (by rw [List.length_drop]; have := HKM.out; omega)] at h1
        rw [HP.out, ← HPP.out, HE.out (by rw [List.length_drop]; have := HKM.out; omega)]
        exact h1⟩
    · have hcn : ¬ c = n := by omega
      go_wp2_with fail
      refine CP.out.mono ?_
      rintro e w1 ⟨rfl, hn1⟩
      have H1 := Lib.hid (HNX.out.trans hn1)
      have K1 := Lib.hid hn1
      clear hn1
      have HM0 := Lib.hid (OwnC.made w1 w1.heap.size 58 6 #[] 0 (Nat.le_refl _) (by unfold maxLen; omega) (by simp))
      have hs0 := (toks_src ((show Toks w (.slice (some ⟨g, o + n * 6, none⟩) (l0.length - n) (c - n)) ((l0.drop n).take k) from by have h1 := toks_mid HT0.out n l0.length hnm hml; rw [HMID.out] at h1; exact h1).nx (H1.out.alloc (.cells #[] 58)))).2.2.2
      rw [HLEN.out] at hs0
      have HS := Lib.hid hs0
      clear hs0
      have HS1 := Lib.hid (show (toksC ((l0.drop n).take k)).length = (l0.length - n) * 6 by rw [toksC_len, HLEN.out])
      have HS2 := Lib.hid (toksC_one ((l0.drop n).take k))
      obtain ⟨hj, hj0, hj1, hj2⟩ := HJ.out
      have tok1 : True := trivial
      go_wp2_with (at_builtin; have _t := tok1; refine wpList_append_c _ rfl _ _ 37 rfl w1.heap.size 58 j0 _ 6 56 Tryd.underlying37 hj hj0 hj1 hj2 rfl (by decide) _ _ _ rfl HM0.out (some ⟨g, o + n * 6, none⟩) (l0.length - n) (c - n) (toksC ((l0.drop n).take k)) rfl HS1.out HS.out HS2.out ?b3 ?b4 ?b5 ?_)
      case b3 => unfold maxLen; omega
      case b4 => omega
      case b5 => simp
      intro v2 w2 hown2 hgr2 hbl2
      clear tok1
      have hown2 : OwnC w2 w1.heap.size 58 6 v2 (l0.length - n) (toksC ((l0.drop n).take k)) := by first | exact hown2 | (have := hown2; simp at this ⊢; exact this)
      rw [← HLEN.out] at hown2
      have H2 := Lib.hid (show Nx w w2 from Below.grown (H1.out.alloc _) hgr2 (by have := H1.out.size; simp; omega) (fun k hk => by have := (HM0.out.lt k hk).1; have := H1.out.size; omega))
      have K2 := Lib.hid (show Nx wr w2 from Below.grown (K1.out.alloc _) hgr2 (by have := K1.out.size; simp; omega) (fun k hk => by have := (HM0.out.lt k hk).1; have := K1.out.size; omega))
      have HTK := Lib.hid (own_fresh (Nat.le_refl _) hown2)
      obtain ⟨A2, c2, rfl, _⟩ := HTK.out.1.form
      rw [HLEN.out] at HTK
      rw [HLEN.out]
      clear hown2 hgr2 hbl2
      obtain ⟨us, hus, husl, hus2⟩ := ((HO.out.nx K2.out).nx ((Nx.refl w2).alloc (.cells #[.slice A2 (l0.length - n) c2] 37))).parts
      have HU := Lib.hid hus
      have HU2 := Lib.hid hus2
      have HUL := Lib.hid husl
      have HTA := Lib.hid (HTK.out.1.nx ((Nx.refl w2).alloc (.cells #[.slice A2 (l0.length - n) c2] 37)))
      have HTB := Lib.hid (fun g (hg : (Value.slice A2 (l0.length - n) c2).ownBlock = some g) => (show w.heap.size ≤ g ∧ g < w2.heap.size + 1 ∧ (Value.slice Av ls.length cv).ownBlock ≠ some g from by
        obtain ⟨h1, h2⟩ := HTK.out.2 g hg
        have s1 := H1.out.size
        have s2 := K1.out.size
        refine ⟨by omega, by omega, fun e => ?_⟩
        have := (HO.out.lt g e).2
        omega))
      clear hus hus2 husl
      have hls : ls.length + 1 ≤ 1000000000 := by have := HLN.out; omega
      obtain ⟨hi, hz0, hz1, hz2⟩ := HI.out
      go_wp2_with (at_builtin; refine wpList_append_c _ rfl _ _ 22 rfl w.heap.size 37 i0 (.slice none 0 0) 1 24 Tryd.underlying22 hi hz0 hz1 hz2 rfl (by decide) _ _ _ rfl HU.out (some ⟨w2.heap.size, 0, none⟩) 1 1 [.slice A2 (l0.length - n) c2] rfl rfl (Or.inr ⟨_, rfl, ?c1⟩) ?c2 ?c3 ?c4 ?c5 ?_)
      case c1 => exact six_at w2 [.slice A2 (l0.length - n) c2] 37
      case c2 => simp [Value.oneCell']
      case c3 => unfold maxLen; omega
      case c4 => omega
      case c5 => have := H2.out.size; simp; omega
      intro v3 w3 hown3 hgr3 hbl3
      have HX3 := Lib.hid (show Nx w w3 from Below.grown (H2.out.alloc _) hgr3 (by have := H2.out.size; simp; omega) (fun k hk => (HU.out.lt k hk).1))
      have HO3 := Lib.hid (OwnL.push HUL.out HU2.out HTA.out (by intro g hg; have := HTB.out g hg; simpa using this) hgr3 (by simpa using hbl3) hown3)
      clear hown3 hgr3 hbl3
      go_wp2
      go_ret
      exact ⟨_, rfl, HX3.out, by
        have h1 := HO3.out
        rw [List.take_of_length_le (by rw [List.length_drop]; have := HKM.out; omega)] at h1
        rw [HP.out, ← HPP.out, HE.out (by rw [List.length_drop]; have := HKM.out; omega)]
        exact h1⟩
    · have be : decide (l0.length ≤ m) = false := decide_eq_false (by omega)
      have hcn : ¬ c = n := by omega
      go_wp2_with fail
      refine CP.out.mono ?_
      rintro e w1 ⟨rfl, hn1⟩
      have H1 := Lib.hid (HNX.out.trans hn1)
      have K1 := Lib.hid hn1
      clear hn1
      have HM0 := Lib.hid (OwnC.made w1 w1.heap.size 58 6 #[] 0 (Nat.le_refl _) (by unfold maxLen; omega) (by simp))
      have hs0 := (toks_src ((show Toks w (.slice (some ⟨g, o + n * 6, none⟩) (m - n) (c - n)) ((l0.drop n).take k) from by have h1 := toks_mid HT0.out n m hnm hml; rw [HMID.out] at h1; exact h1).nx (H1.out.alloc (.cells #[] 58)))).2.2.2
      rw [HLEN.out] at hs0
      have HS := Lib.hid hs0
      clear hs0
      have HS1 := Lib.hid (show (toksC ((l0.drop n).take k)).length = (m - n) * 6 by rw [toksC_len, HLEN.out])
      have HS2 := Lib.hid (toksC_one ((l0.drop n).take k))
      obtain ⟨hj, hj0, hj1, hj2⟩ := HJ.out
      have tok1 : True := trivial
      go_wp2_with (at_builtin; have _t := tok1; refine wpList_append_c _ rfl _ _ 37 rfl w1.heap.size 58 j0 _ 6 56 Tryd.underlying37 hj hj0 hj1 hj2 rfl (by decide) _ _ _ rfl HM0.out (some ⟨g, o + n * 6, none⟩) (m - n) (c - n) (toksC ((l0.drop n).take k)) rfl HS1.out HS.out HS2.out ?b3 ?b4 ?b5 ?_)
      case b3 => unfold maxLen; omega
      case b4 => omega
      case b5 => simp
      intro v2 w2 hown2 hgr2 hbl2
      clear tok1
      have hown2 : OwnC w2 w1.heap.size 58 6 v2 (m - n) (toksC ((l0.drop n).take k)) := by first | exact hown2 | (have := hown2; simp at this ⊢; exact this)
      rw [← HLEN.out] at hown2
      have H2 := Lib.hid (show Nx w w2 from Below.grown (H1.out.alloc _) hgr2 (by have := H1.out.size; simp; omega) (fun k hk => by have := (HM0.out.lt k hk).1; have := H1.out.size; omega))
      have K2 := Lib.hid (show Nx wr w2 from Below.grown (K1.out.alloc _) hgr2 (by have := K1.out.size; simp; omega) (fun k hk => by have := (HM0.out.lt k hk).1; have := K1.out.size; omega))
      have HTK := Lib.hid (own_fresh (Nat.le_refl _) hown2)
      obtain ⟨A2, c2, rfl, _⟩ := HTK.out.1.form
      rw [HLEN.out] at HTK
      rw [HLEN.out]
      clear hown2 hgr2 hbl2
      obtain ⟨us, hus, husl, hus2⟩ := ((HO.out.nx K2.out).nx ((Nx.refl w2).alloc (.cells #[.slice A2 (m - n) c2] 37))).parts
      have HU := Lib.hid hus
      have HU2 := Lib.hid hus2
      have HUL := Lib.hid husl
      have HTA := Lib.hid (HTK.out.1.nx ((Nx.refl w2).alloc (.cells #[.slice A2 (m - n) c2] 37)))
      have HTB := Lib.hid (fun g (hg : (Value.slice A2 (m - n) c2).ownBlock = some g) => (show w.heap.size ≤ g ∧ g < w2.heap.size + 1 ∧ (Value.slice Av ls.length cv).ownBlock ≠ some g from by
        obtain ⟨h1, h2⟩ := HTK.out.2 g hg
        have s1 := H1.out.size
        have s2 := K1.out.size
        refine ⟨by omega, by omega, fun e => ?_⟩
        have := (HO.out.lt g e).2
        omega))
      clear hus hus2 husl
      have hls : ls.length + 1 ≤ 1000000000 := by have := HLN.out; omega
      obtain ⟨hi, hz0, hz1, hz2⟩ := HI.out
      go_wp2_with (at_builtin; refine wpList_append_c _ rfl _ _ 22 rfl w.heap.size 37 i0 (.slice none 0 0) 1 24 Tryd.underlying22 hi hz0 hz1 hz2 rfl (by decide) _ _ _ rfl HU.out (some ⟨w2.heap.size, 0, none⟩) 1 1 [.slice A2 (m - n) c2] rfl rfl (Or.inr ⟨_, rfl, ?c1⟩) ?c2 ?c3 ?c4 ?c5 ?_)
      case c1 => exact six_at w2 [.slice A2 (m - n) c2] 37
      case c2 => simp [Value.oneCell']
      case c3 => unfold maxLen; omega
      case c4 => omega
      case c5 => have := H2.out.size; simp; omega
      intro v3 w3 hown3 hgr3 hbl3
      have HX3 := Lib.hid (show Nx w w3 from Below.grown (H2.out.alloc _) hgr3 (by have := H2.out.size; simp; omega) (fun k hk => (HU.out.lt k hk).1))
      have HO3 := Lib.hid (OwnL.push HUL.out HU2.out HTA.out (by intro g hg; have := HTB.out g hg; simpa using this) hgr3 (by simpa using hbl3) hown3)
      clear hown3 hgr3 hbl3
      go_wp2
      go_roundw
      case rel =>
        refine ⟨m + 1, ls ++ [(l0.drop n).take k], by omega, by go_num, HO3.out, ?_, by rw [List.length_append, List.length_singleton]; have := HLN.out; omega, HX3.out⟩
        rw [← HPP.out, HD.out (by rw [List.length_drop]; have := HKM.out; omega), List.drop_drop, show n + (k + 1) = m + 1 by have := HKM.out; omega]; simp
      case measure => simp [intOf]; omega

end Go.Proofs.YtbkgdepblaibkaaDoor
