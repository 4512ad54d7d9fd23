/- Parts of the proof, one behind the other. -/
import Derived.Test.YtbkgdepblaibkaaDoorArg
import Derived.Test.YtbkgdepblaibkaaDoorMade
import Derived.Test.YtbkgdepblaibkaaDoorZpaa
import Derived.Test.YtbkgdepblaibkaaDoorZpab
import Derived.Test.YtbkgdepblaibkaaDoorZpac
/- Package typecaselaw14: the walk of MacroPlain. -/
namespace Go.Proofs.YtbkgdepblaibkaaDoor
open Go.RowKit
set_option linter.unusedVariables false
set_option linter.unusedSimpArgs false

/-- How far the parts are put together again. -/
def PlSt (l : List Tok) (ps : List (List Tok)) (i a : Nat) : Prop :=
  (i = 0 ∧ a = 0 ∧ ps = partP l) ∨ (0 < i ∧ a < l.length ∧ ps.drop i = partT (l.drop (a + 1))) ∨ (0 < i ∧ a = l.length ∧ ps.drop i = [])

theorem part_head (l : List Tok) (n : Nat) (hn : n ≤ l.length) (p : List Tok) (r : List (List Tok)) (h : partT (l.drop n) = p :: r) :
    ∃ k, n + k ≤ l.length ∧ p = (l.drop n).take k ∧ p.length = k ∧ ((n + k < l.length ∧ r = partT (l.drop (n + k + 1))) ∨ (n + k = l.length ∧ r = [])) := by
  have hl := comN_le (l.drop n) 0
  rw [List.length_drop] at hl
  by_cases hk : comN 0 (l.drop n) < (l.drop n).length
  · rw [partT_cons _ hk] at h
    injection h with h1 h2
    rw [List.length_drop] at hk
    refine ⟨comN 0 (l.drop n), by omega, h1.symm, by rw [← h1, List.length_take, List.length_drop]; omega, Or.inl ⟨by omega, ?_⟩⟩
    rw [← h2, List.drop_drop, Nat.add_assoc]
  · have he : comN 0 (l.drop n) = (l.drop n).length := by rw [List.length_drop] at hk ⊢; omega
    rw [partT_one _ he] at h
    injection h with h1 h2
    exact ⟨(l.drop n).length, by rw [List.length_drop]; omega, by rw [List.take_length]; exact h1.symm, by rw [← h1], Or.inr ⟨by rw [List.length_drop]; omega, h2.symm⟩⟩

theorem plain_step (l : List Tok) (ps : List (List Tok)) (i a : Nat) (h : PlSt l ps i a) (p : List Tok) (hp : ps[i]? = some p) :
    ∃ n k, ((i = 0 ∧ a = n) ∨ (0 < i ∧ a + 1 = n ∧ a < l.length)) ∧ n + k ≤ l.length ∧ p = (l.drop n).take k ∧ p.length = k ∧ PlSt l ps (i + 1) (n + k) := by
  obtain ⟨hlt, he⟩ := List.getElem?_eq_some_iff.1 hp
  have hd : ps.drop i = p :: ps.drop (i + 1) := by rw [List.drop_eq_getElem_cons hlt, he]
  have fin : ∀ n, n ≤ l.length → ((i = 0 ∧ a = n) ∨ (0 < i ∧ a + 1 = n ∧ a < l.length)) → partT (l.drop n) = p :: ps.drop (i + 1) → ∃ n k, ((i = 0 ∧ a = n) ∨ (0 < i ∧ a + 1 = n ∧ a < l.length)) ∧ n + k ≤ l.length ∧ p = (l.drop n).take k ∧ p.length = k ∧ PlSt l ps (i + 1) (n + k) := by
    intro n hn hc hq
    obtain ⟨k, h1, h2, h3, h4⟩ := part_head l n hn p _ hq
    refine ⟨n, k, hc, h1, h2, h3, ?_⟩
    rcases h4 with ⟨h5, h6⟩ | ⟨h5, h6⟩
    · exact Or.inr (Or.inl ⟨Nat.succ_pos _, h5, h6⟩)
    · exact Or.inr (Or.inr ⟨Nat.succ_pos _, h5, h6⟩)
  rcases h with ⟨h1, h2, h3⟩ | ⟨h1, h2, h3⟩ | ⟨h1, h2, h3⟩
  · subst h1 h2
    rw [List.drop_zero] at hd
    have hl : l ≠ [] := fun e => by subst e; rw [h3] at hd; cases hd
    have e : partP l = partT l := by unfold partP; rw [if_neg hl]
    refine fin 0 (Nat.zero_le _) (Or.inl ⟨rfl, rfl⟩) ?_
    rw [List.drop_zero, ← e, ← h3]
    exact hd
  · exact fin (a + 1) (by omega) (Or.inr ⟨h1, rfl, h2⟩) (by rw [← h3, hd])
  · rw [h3] at hd; cases hd

theorem plain_end (l : List Tok) (ps : List (List Tok)) (a : Nat) (h : PlSt l ps ps.length a) : a = l.length := by
  have one := fun l => (partT_sum l.length l (Nat.le_refl _)).1
  rcases h with ⟨h1, h2, h3⟩ | ⟨h1, h2, h3⟩ | ⟨h1, h2, h3⟩
  · have h4 : ps = [] := List.eq_nil_of_length_eq_zero h1
    subst h4
    by_cases hl : l = []
    · subst hl; exact h2
    · exfalso
      have e : partP l = partT l := by unfold partP; rw [if_neg hl]
      rw [e] at h3
      have := one l
      rw [← h3] at this
      simp at this
  · exfalso
    rw [List.drop_length] at h3
    have := one (l.drop (a + 1))
    rw [← h3] at this
    simp at this
  · exact h2

/-- What holds at a round's head. -/
def PlainRel (l : List Tok) (ps : List (List Tok)) (W wr : World) (bv av iv : Value) : Prop :=
  ∃ i a : Nat, i ≤ ps.length ∧ iv = .int .i64 i ∧ av = .int .i64 a ∧ a ≤ l.length ∧ Nx W wr ∧ OwnC wr W.heap.size 58 6 bv a (toksC (l.take a)) ∧ PlSt l ps i a

theorem toksC_app (a b : List Tok) : toksC (a ++ b) = toksC a ++ toksC b := by unfold toksC; rw [List.flatMap_append]

theorem take_part (l : List Tok) (n k : Nat) : l.take (n + k) = l.take n ++ (l.drop n).take k := by
  rw [List.take_add]

set_option maxHeartbeats 8000000 in
set_option maxRecDepth 100000 in
theorem MacroPlain_walk (w0 : World) (hE : ErrT w0) (mn : List UInt8) (pv : Value) (qs : List (PPar × Value)) (lv : Value) (ms : List (List Tok)) (hP : ParsQ w0 pv qs) (hM : Lins w0 lv ms)
    (hS : qs.length ≤ 140737488351232 ∧ (∀ q ∈ qs, q.1.dflt.length ≤ 140737488351232) ∧ ms.length ≤ 140737488351232 ∧ ∀ l ∈ ms, l.length ≤ 140737488351232)
    (vv : Value) (vs : List (List Tok)) (hV : Lins w0 vv vs) (hVb : ∀ l ∈ vs, ∀ t ∈ l, TokBd t) (hvs : vs.length ≤ 140737488351232 ∧ ∀ l ∈ vs, l.length ≤ 140737488351232)
    (v : Value) (l : List Tok) (hT : Toks w0 v l) (hB : ∀ t ∈ l, TokBd t) (hs : l.length ≤ 140737488351232) :
    Calls Tryd.prog 10 #[.agg #[.string (B mn), pv, lv], vv, v] w0 fun e w' => e = .returned (.bool true) ∧ Nx w0 w' := by
  obtain ⟨j0, hj, hj0, hj1, hj2⟩ := info_parts tok_info
  have HJ := Lib.hid (And.intro hj (And.intro hj0 (And.intro hj1 hj2)))
  clear hj hj0 hj1 hj2
  have HE := Lib.hid hE
  have HP := Lib.hid hP
  have HM := Lib.hid hM
  have HV := Lib.hid hV
  have HT := Lib.hid hT
  have HS := Lib.hid hS
  have HSV := Lib.hid hvs
  obtain ⟨A, c, rfl, hc1, hc2, _⟩ := hP.1.form
  obtain ⟨A1, c1, rfl, _⟩ := hM.form
  obtain ⟨A2, c2, rfl, _⟩ := hV.form
  obtain ⟨A3, c3, rfl, _, hc4, hA3⟩ := hT.form
  have HA3 := Lib.hid hA3
  obtain ⟨W, hW⟩ : ∃ W, w0.alloc (.cells #[.string (B mn), .slice A qs.length c, .slice A1 ms.length c1] 49) = W := ⟨_, rfl⟩
  have HWE := Lib.hid hW
  have HWN := Lib.hid (show Nx w0 W from hW ▸ (Nx.refl w0).alloc _)
  have HM0 := Lib.hid (show Has W w0.heap.size (.cells #[.string (B mn), .slice A qs.length c, .slice A1 ms.length c1] 49) from hW ▸ Has.new w0 _)
  clear hE hP hM hV hT hS hs hB hVb hvs hW hA3
  go_enter Tryd.func10, Tryd.ntmps10
  go_wp2_with fail
  rw [HWE.out]
  refine (awakem_any _ (HE.out.nx HWN.out)).mono ?_
  rintro e w1 ⟨rfl, hn1⟩
  have H1 := Lib.hid (HWN.out.trans hn1)
  have K1 := Lib.hid hn1
  clear hn1
  have hm := HM0.out.nx K1.out
  have m0 : w1.cell? ⟨w0.heap.size, 0, none⟩ = some (.string (B mn)) := hm.cell 0 _ rfl
  have m1 : w1.cell? ⟨w0.heap.size, 1, none⟩ = some (.slice A qs.length c) := hm.cell 1 _ rfl
  have m2 : w1.cell? ⟨w0.heap.size, 2, none⟩ = some (.slice A1 ms.length c1) := hm.cell 2 _ rfl
  have zm := hm.lt
  clear hm
  go_wp2_with fail
  refine (small_any mn _ qs _ ms _ (HP.out.nx H1.out) (HM.out.nx H1.out) HS.out.1 HS.out.2.1 HS.out.2.2.1 HS.out.2.2.2).mono ?_
  rintro e w2 ⟨b, rfl, hb, hn2⟩
  have H2 := Lib.hid (H1.out.trans hn2)
  have K2 := Lib.hid (K1.out.trans hn2)
  clear hn2 m0 m1 m2 zm
  cases b
  · go_wp2
    go_ret
    exact ⟨rfl, H2.out⟩
  have HSM := Lib.hid (hb rfl)
  clear hb
  have HLW := Lib.hid (HV.out.nx (H2.out.alloc (.cells #[.slice A2 vs.length c2] 22)))
  go_wp2_with fail
  refine (light_one _ _ _ vs _ (by simp) HLW.out HSV.out.1 HSV.out.2).mono ?_
  rintro e w3 ⟨b, rfl, hb, hn3⟩
  have H3 := Lib.hid ((H2.out.alloc _).trans hn3)
  have K3 := Lib.hid ((K2.out.alloc _).trans hn3)
  clear hn3 HLW
  cases b
  · go_wp2
    go_ret
    exact ⟨rfl, H3.out⟩
  clear hb
  by_cases hl : 300 < l.length
  · have d1 : decide ((300 : Int) < l.length) = true := decide_eq_true (by omega)
    go_wp2
    go_ret
    exact ⟨rfl, H3.out⟩
  have d1 : decide ((300 : Int) < l.length) = false := decide_eq_false (by omega)
  have hl3 : l.length ≤ 300 := by omega
  clear hl
  go_wp2_with fail
  refine (parts_any _ l _ (HT.out.nx H3.out) (by omega)).mono ?_
  rintro e w4 ⟨v4, rfl, hn4, hO4⟩
  have H4 := Lib.hid (H3.out.trans hn4)
  have K4 := Lib.hid (K3.out.trans hn4)
  have HPS := Lib.hid (show partP l = partP l from rfl)
  obtain ⟨ps, hps⟩ : ∃ ps, partP l = ps := ⟨_, rfl⟩
  rw [hps] at hO4
  have HQS := Lib.hid hps
  have HL4 := Lib.hid hO4.lins
  obtain ⟨A4, c4, rfl⟩ := hO4.form
  have hpl : ps.length ≤ 1000000 := by
    rw [← hps]
    by_cases h : l = []
    · subst h; exact Nat.zero_le _
    · have e : partP l = partT l := by unfold partP; rw [if_neg h]
      rw [e]
      have := (partT_sum l.length l (Nat.le_refl _)).2.1
      omega
  clear hn4 hO4 hps HPS d1
  go_wp2
  go_loopw [8, 9, 10] (fun bv av iv wr => PlainRel l ps w4 wr bv av iv) (fun _ _ iv _ => ps.length - (intOf iv).toNat)
  case atStart => exact ⟨0, 0, Nat.zero_le _, rfl, rfl, Nat.zero_le _, Nx.refl _, OwnC.nil _ _ _ _, Or.inl ⟨rfl, rfl, HQS.out.symm⟩⟩
  case round =>
    obtain ⟨i, a, hi, rfl, rfl, hal, hnx, hO, hst⟩ := hrel
    have HNX := Lib.hid hnx
    have HO := Lib.hid hO
    have HST := Lib.hid hst
    clear hnx hO hst
    by_cases hlt : i < ps.length
    · obtain ⟨p, hp⟩ : ∃ p, ps[i]? = some p := ⟨_, List.getElem?_eq_getElem hlt⟩
      obtain ⟨n, k, hcase, hnk, hpe, hpk, hst2⟩ := plain_step l ps i a HST.out p hp
      obtain ⟨g, o, cc, x, he, _, hxc, hxt⟩ := line_at HL4.out i p hp
      cases he
      obtain ⟨B1, d1, rfl, hp1, hp2, _⟩ := hxt.form
      have hxc4 := hxc
      have hxc := HNX.out.cell hxc
      have y1 := block_lt hxc
      have HXT := Lib.hid (hxt.nx HNX.out)
      have HXT0 := Lib.hid hxt
      have HPE := Lib.hid hpe
      have HST2 := Lib.hid hst2
      have HTK := Lib.hid (show toksC (l.take (n + k)) = toksC (l.take n) ++ toksC p from by rw [take_part, toksC_app, ← hpe])
      have HPK := Lib.hid hpk
      have hiI : decide ((i : Int) < ps.length) = true := decide_eq_true (by omega)
      have hi0 : (i : Int) < ps.length := by omega
      have hp9 : p.length ≤ 300 := by omega
      have HS1 := Lib.hid (show (toksC p).length = p.length * 6 from toksC_len p)
      have HS2 := Lib.hid (toksC_one p)
      clear hp hxt hpe hst2 hpk
      have hxc0 := hxc4
      rcases hcase with ⟨rfl, rfl⟩ | ⟨hi1, rfl, hal2⟩
      · rw [Nat.add_zero] at hxc hxc0
        have hiI : decide ((0 : Int) < ps.length) = true := decide_eq_true (by omega)
        have hi0 : (0 : Int) < ps.length := by omega
        have a0 : (0 : Int) ≤ a := by omega
        have HS := Lib.hid ((toks_src (HXT.out.nx (Nx.refl _))).2.2.2)
        have hA := Lib.hid HO.out
        obtain ⟨hj, hj0, hj1, hj2⟩ := HJ.out
        go_wp2_with (at_builtin; refine wpList_append_c _ rfl _ _ 37 rfl w4.heap.size 58 j0 (.agg #[.int .i64 0, .int .i64 0, .int .i64 0, .string (B []), .int .u32 0, .int .i64 0]) 6 56 Tryd.underlying37 hj hj0 hj1 hj2 rfl (by decide) _ _ _ rfl hA.out B1 p.length d1 (toksC p) rfl HS1.out HS.out HS2.out ?ba3 ?ba4 ?ba5 ?_)
        case ba3 => unfold maxLen; omega
        case ba4 => omega
        case ba5 => exact HNX.out.size
        intro v5 w5 hown5 hgr5 hbl5
        have HX5 := Lib.hid (show Nx w4 w5 from Below.grown HNX.out hgr5 HNX.out.size (fun k hk => (hA.out.lt k hk).1))
        have HO5 := Lib.hid (show OwnC w5 w4.heap.size 58 6 v5 (a + k) (toksC (l.take (a + k))) from by rw [HTK.out, ← HPK.out]; rw [HPK.out] at hown5 ⊢; exact hown5)
        have hxc5 := (HX5.out).cell hxc0
        have y5 := block_lt hxc5
        clear hown5 hgr5 hbl5
        go_wp2
        go_roundw
        case rel => exact ⟨0 + 1, a + k, by omega, by go_num, by have := HPK.out; go_num, by omega, HX5.out, HO5.out, HST2.out⟩
        case measure => simp [intOf]; omega
      · obtain ⟨⟨kd, ln, cl, tx, nm, sc⟩, ht⟩ : ∃ t, l[a]? = some t := ⟨_, List.getElem?_eq_getElem hal2⟩
        obtain ⟨g1, o1, rfl, hTA⟩ : ∃ g o, A3 = some ⟨g, o, none⟩ ∧ TokAt w0 g o l := by
          rcases HA3.out with ⟨_, h, _⟩ | h
          · subst h; cases ht
          · exact h
        obtain ⟨a0, a1, a2, a3, a4, a5⟩ := (hTA.nx (H4.out.trans HNX.out)).at_ a _ ht
        dsimp only at a0 a1 a2 a3 a4 a5
        have y0 := block_lt a0
        have HTS := Lib.hid (show toksC (l.take (a + 1)) = toksC (l.take a) ++ [.int .i64 kd, .int .i64 ln, .int .i64 cl, .string (B tx), .int .u32 nm, .int .i64 sc] from by rw [take_snoc' _ _ _ ht, toksC_snoc])
        have hA1 := Lib.hid (HO.out.alloc (.cells #[.int .i64 kd, .int .i64 ln, .int .i64 cl, .string (B tx), .int .u32 nm, .int .i64 sc] 58))
        have hpI : decide ((0 : Int) < i) = true := decide_eq_true (by omega)
        have haI : decide ((a : Int) < l.length) = true := decide_eq_true (by omega)
        have ha0 : (a : Int) < l.length := by omega
        obtain ⟨hj, hj0, hj1, hj2⟩ := HJ.out
        clear hTA ht
        have tok1 : True := trivial
        go_wp2_with (at_builtin; have _t := tok1; refine wpList_append_c _ rfl _ _ 37 rfl w4.heap.size 58 j0 (.agg #[.int .i64 0, .int .i64 0, .int .i64 0, .string (B []), .int .u32 0, .int .i64 0]) 6 56 Tryd.underlying37 hj hj0 hj1 hj2 rfl (by decide) _ _ _ rfl hA1.out (some ⟨wr.heap.size, 0, none⟩) 1 1 [.int .i64 kd, .int .i64 ln, .int .i64 cl, .string (B tx), .int .u32 nm, .int .i64 sc] rfl rfl (Or.inr ⟨_, rfl, ?bb1⟩) ?bb2 ?bb3 ?bb4 ?bb5 ?_)
        try (case bb1 => exact six_at wr [.int .i64 kd, .int .i64 ln, .int .i64 cl, .string (B tx), .int .u32 nm, .int .i64 sc] 58)
        case bb2 => simp [Value.oneCell']
        case bb3 => unfold maxLen; omega
        case bb4 => omega
        case bb5 => have := HNX.out.size; simp; omega
        intro v6 w6 hown6 hgr6 hbl6
        clear tok1
        have HX6 := Lib.hid (show Nx w4 w6 from Below.grown (HNX.out.alloc _) hgr6 (by have := HNX.out.size; simp; omega) (fun k hk => (hA1.out.lt k hk).1))
        have HO6 := Lib.hid (show OwnC w6 w4.heap.size 58 6 v6 (a + 1) (toksC (l.take (a + 1))) from by rw [HTS.out]; exact hown6)
        have HXT := Lib.hid (HXT0.out.nx HX6.out)
        have hxc6 := HX6.out.cell hxc0
        have y6 := block_lt hxc6
        clear hown6 hgr6 hbl6 a0 a1 a2 a3 a4 a5 y0 hxc y1
        have HS := Lib.hid ((toks_src (HXT.out.nx (Nx.refl _))).2.2.2)
        have hA := Lib.hid HO6.out
        go_wp2_with (at_builtin; refine wpList_append_c _ rfl _ _ 37 rfl w4.heap.size 58 j0 (.agg #[.int .i64 0, .int .i64 0, .int .i64 0, .string (B []), .int .u32 0, .int .i64 0]) 6 56 Tryd.underlying37 hj hj0 hj1 hj2 rfl (by decide) _ _ _ rfl hA.out B1 p.length d1 (toksC p) rfl HS1.out HS.out HS2.out ?bc3 ?bc4 ?bc5 ?_)
        case bc3 => unfold maxLen; omega
        case bc4 => omega
        case bc5 => exact HX6.out.size
        intro v5 w5 hown5 hgr5 hbl5
        have HX5 := Lib.hid (show Nx w4 w5 from Below.grown HX6.out hgr5 HX6.out.size (fun k hk => (hA.out.lt k hk).1))
        have HO5 := Lib.hid (show OwnC w5 w4.heap.size 58 6 v5 (a + 1 + k) (toksC (l.take (a + 1 + k))) from by rw [HTK.out, ← HPK.out]; rw [HPK.out] at hown5 ⊢; exact hown5)
        have hxc5 := (HX5.out).cell hxc0
        have y5 := block_lt hxc5
        clear hown5 hgr5 hbl5
        go_wp2
        go_roundw
        case rel => exact ⟨i + 1, a + 1 + k, by omega, by go_num, by have := HPK.out; go_num, by omega, HX5.out, HO5.out, HST2.out⟩
        case measure => simp [intOf]; omega
    · obtain rfl : i = ps.length := by omega
      obtain rfl : a = l.length := plain_end l ps a HST.out
      have hiI : decide ((ps.length : Int) < ps.length) = false := decide_eq_false (by omega)
      have HTB := Lib.hid (show Toks wr u8 l from (own_fresh (Nat.le_refl _) (by have h := HO.out; rw [List.take_length] at h; exact h)).1)
      go_wp2_with fail
      refine (toks_any _ _ l _ HTB.out (HT.out.nx (H4.out.trans HNX.out))).mono ?_
      rintro e w7 ⟨rfl, hn7⟩
      have H7 := Lib.hid ((H4.out.trans HNX.out).trans hn7)
      have K7 := Lib.hid ((K4.out.trans HNX.out).trans hn7)
      have hm := HM0.out.nx K7.out
      have m0 : w7.cell? ⟨w0.heap.size, 0, none⟩ = some (.string (B mn)) := hm.cell 0 _ rfl
      have m1 : w7.cell? ⟨w0.heap.size, 1, none⟩ = some (.slice A qs.length c) := hm.cell 1 _ rfl
      have m2 : w7.cell? ⟨w0.heap.size, 2, none⟩ = some (.slice A1 ms.length c1) := hm.cell 2 _ rfl
      have zm := hm.lt
      have HFM := Lib.hid (few_len HSM.out.2.2)
      have hml : ms.length ≤ 600 := HFM.out.1
      clear hn7 hm hiI
      go_wp2
      go_loop [11] (fun iv => ∃ i : Nat, i ≤ ms.length ∧ iv = .int .i64 i ∧ ∀ l ∈ ms.take i, ∀ t ∈ l, t.kind ≠ 3) (fun iv => ms.length - (intOf iv).toNat)
      case atStart => exact ⟨0, Nat.zero_le _, rfl, fun l h => by simp at h⟩
      case round =>
        obtain ⟨j, hj, rfl, hno⟩ := hrel
        have HNO := Lib.hid hno
        clear hno
        by_cases hlj : j < ms.length
        · obtain ⟨l2, hl2⟩ : ∃ l2, ms[j]? = some l2 := ⟨_, List.getElem?_eq_getElem hlj⟩
          obtain ⟨g, o, cc, x, he, _, hxc, hxt⟩ := line_at HM.out j l2 hl2
          cases he
          obtain ⟨B2, d2, rfl, hp1, hp2, hB2⟩ := hxt.form
          have hxc := H7.out.cell hxc
          have y1 := block_lt hxc
          have HB2 := Lib.hid hB2
          have HL2 := Lib.hid hl2
          have hl6 : l2.length ≤ 600 := HFM.out.2 l2 (List.mem_of_getElem? hl2)
          have hjI : (j : Int) < ms.length := by omega
          clear hxt hl2 hB2
          go_wp2
          go_loop [12] (fun kv => ∃ k : Nat, k ≤ l2.length ∧ kv = .int .i64 k ∧ ∀ t ∈ l2.take k, t.kind ≠ 3) (fun kv => l2.length - (intOf kv).toNat)
          case atStart => exact ⟨0, Nat.zero_le _, rfl, fun l h => by simp at h⟩
          case round =>
            obtain ⟨k, hk, rfl, hno⟩ := hrel
            have HNK := Lib.hid hno
            clear hno
            by_cases hlk : k < l2.length
            · obtain ⟨⟨kd, ln, cl, tx, nm, sc⟩, ht⟩ : ∃ t, l2[k]? = some t := ⟨_, List.getElem?_eq_getElem hlk⟩
              obtain ⟨g1, o1, rfl, hTA⟩ : ∃ g o, B2 = some ⟨g, o, none⟩ ∧ TokAt w0 g o l2 := by
                rcases HB2.out with ⟨_, h, _⟩ | h
                · subst h; cases ht
                · exact h
              obtain ⟨a0, a1, a2, a3, a4, a5⟩ := (hTA.nx H7.out).at_ k _ ht
              dsimp only at a0
              have y0 := block_lt a0
              have HTK := Lib.hid ht
              have hkI : (k : Int) < l2.length := by omega
              clear hTA ht a1 a2 a3 a4 a5
              cases hb : (kd == 3)
              · have HKD := Lib.hid (show kd ≠ 3 from by simpa using hb)
                go_wp2
                go_round
                case rel => exact ⟨k + 1, by omega, by go_num, (by
                  intro t h
                  rw [take_snoc' _ _ _ HTK.out] at h
                  rcases List.mem_append.1 h with h | h
                  · exact HNK.out t h
                  · simp at h; subst h; exact HKD.out)⟩
                case measure => simp [intOf]; omega
              · go_wp2
                go_ret
                exact ⟨rfl, H7.out⟩
            · obtain rfl : k = l2.length := by omega
              go_wp2
              go_round
              case rel => exact ⟨j + 1, by omega, by go_num, (by
                intro l h
                rw [take_snoc' _ _ _ HL2.out] at h
                rcases List.mem_append.1 h with h | h
                · exact HNO.out l h
                · simp at h; subst h
                  have h2 := HNK.out
                  rw [List.take_length] at h2
                  exact h2)⟩
              case measure => simp [intOf]; omega
        · obtain rfl : j = ms.length := by omega
          have HALL := Lib.hid (show ∀ l ∈ ms, ∀ t ∈ l, t.kind ≠ 3 from by have h := HNO.out; rw [List.take_length] at h; exact h)
          have CO := Lib.hid (fun w' (h : Nx w7 w') => ours_any mn _ qs (.slice A1 ms.length c1) ⟨_, _, _, rfl⟩ w' ⟨HP.out.1.nx (H7.out.trans h), fun q hq => (HP.out.2 q hq).nx (H7.out.trans h)⟩ (by have := HSM.out.1; omega))
          have CF := Lib.hid (fun w' (h : Nx w7 w') pv' hpv => fill_any mn pv' hpv (.slice A1 ms.length c1) ms (.slice A2 vs.length c2) ⟨_, _, _, rfl⟩ w' (HM.out.nx (H7.out.trans h)) (by omega) (fun l hl => by have := HFM.out.2 l hl; omega) HALL.out)
          have CS := Lib.hid (fun w' (h : Nx w7 w') => HM.out.nx (H7.out.trans h))
          go_wp2
          go_region_with (first
            | (go_at_call 37; refine (CO.out _ (by repeat (with_reducible first | exact Nx.refl _ | refine Nx.drew ?_))).mono ?_; rintro e w8 ⟨pv8, rfl, hn8, hP8⟩; have hf8 := hP8.1.form; clear hP8; obtain ⟨pA8, pc8, rfl, _⟩ := hf8; have N8 : Nx w7 w8 := Nx.trans (by repeat (with_reducible first | exact Nx.refl _ | refine Nx.drew ?_)) hn8; have m2' := N8.cell m2; have zm' := Nat.lt_of_lt_of_le zm N8.size)
            | (go_at_call 40; refine (CF.out _ (by repeat (with_reducible first | exact N8 | refine Nx.drew ?_)) _ ⟨_, _, _, rfl⟩).mono ?_; rintro e w9 ⟨v9, rfl, hn9, hO9⟩; have N9 : Nx w7 w9 := Nx.trans (by repeat (with_reducible first | exact N8 | refine Nx.drew ?_)) hn9; have m2'' := N9.cell m2; have zm'' := Nat.lt_of_lt_of_le zm N9.size)
            | (go_at_call 31; refine (same_any _ _ ms _ (hO9.lins.nx (by repeat (with_reducible first | exact Nx.refl _ | refine Nx.drew ?_))) (CS.out _ (by repeat (with_reducible first | exact N9 | refine Nx.drew ?_)))).mono ?_; rintro e w10 ⟨rfl, hn10⟩; have N10 : Nx w7 w10 := Nx.trans (by repeat (with_reducible first | exact N9 | refine Nx.drew ?_)) hn10))
          all_goals
            have H10 := Lib.hid (H7.out.trans N10)
            clear N8 N9 N10 hn8 hn9 hn10 m2' m2''
            go_wp2
            go_ret
            exact ⟨rfl, H10.out⟩

end Go.Proofs.YtbkgdepblaibkaaDoor

/- A macro of the document that is handed over by value: its parts. -/
namespace Go.Proofs.YtbkgdepblaibkaaDoor
open Go.RowKit Go.ChangeShapes Go.WideShapes Go.ChangeAt Go.Deep
set_option linter.unusedVariables false
set_option linter.unusedSimpArgs false
set_option maxRecDepth 100000

section
variable {H : Type} {enc : TypeId × Value → H} {w : World} {base : Nat} {held : Bool}

def partsD : DataW H → List (DataW H)
  | .agg ps => ps
  | _ => []

theorem c_par : Tryd.prog.cellsOf 96 = 3 := by kernel_rfl

theorem c_mac : Tryd.prog.cellsOf 49 = 3 := by kernel_rfl

theorem c_str : Tryd.prog.cellsOf 9 = 1 := by kernel_rfl

theorem c_bool : Tryd.prog.cellsOf 4 = 1 := by kernel_rfl

theorem c_pars : Tryd.prog.cellsOf 47 = 1 := by kernel_rfl

theorem c_lins : Tryd.prog.cellsOf 22 = 1 := by kernel_rfl

/-- A parameter's datum: its default is as long as its list. -/
def LenPar (d : DataW H) (q : PPar × Value) : Prop := ∃ d0 d1 d2, d = .agg [d0, d1, d2] ∧ lenD d2 = q.1.dflt.length

theorem open_par {fuel : Nat} {cs : List Value} {x : DataW H × List MemPlace} (h : DataW.trod enc Tryd.prog w base (fun _ => true) held fuel 96 cs = some x) :
    ∃ q : PPar × Value, cs = parQ q ∧ Toks w q.2 q.1.dflt ∧ (∀ t ∈ q.1.dflt, TokBd t) ∧ LenPar x.1 q := by
  obtain ⟨xs, n, _, rfl, hl, hlen, hg⟩ := DataW.trod_struct Tryd.underlying96 h
  rw [c_par] at hl
  match cs, hl with
  | [c0, c1, c2], _ =>
    match xs, hlen with
    | [y0, y1, y2], _ =>
      have g0 := hg 0 _ rfl
      have g1 := hg 1 _ rfl
      have g2 := hg 2 _ rfl
      simp [c_str, c_bool, c_toks] at g0 g1 g2
      obtain ⟨s, e0, _, _⟩ := DataW.trod_string Tryd.underlying9 g0
      obtain ⟨b, e1, _⟩ := DataW.trod_bool Tryd.underlying4 g1
      obtain ⟨l, h1, h2, h3⟩ := open_toks1 g2
      simp only [List.cons.injEq, and_true] at e0 e1
      subst e0 e1
      exact ⟨(⟨s.data.toList, b, l⟩, c2), rfl, h1, h2, _, _, _, rfl, h3⟩

theorem open_pars1 {fuel : Nat} {v : Value} {x : DataW H × List MemPlace} (h : DataW.trod enc Tryd.prog w base (fun _ => true) held fuel 47 [v] = some x) :
    ∃ qs, ParsQ w v qs ∧ (∀ q ∈ qs, ∀ t ∈ q.1.dflt, TokBd t) ∧ lenD x.1 = qs.length ∧ ∀ (i : Nat) (q : PPar × Value), qs[i]? = some q → ∃ e, (elemsD x.1)[i]? = some e ∧ LenPar e q := by
  rcases open_slice Tryd.underlying47 h with ⟨hv, rfl⟩ | ⟨a, len, cap, m, n, D, Pl, hv, hb, hl, hm, hmm, rfl, hi⟩
  · simp at hv
    subst hv
    exact ⟨[], ⟨Or.inl ⟨⟨none, rfl⟩, rfl⟩, fun q hq => by cases hq⟩, by simp, rfl, by simp⟩
  · simp at hv
    subst hv
    simp only [if_true] at hmm
    have hmm' := hmm.symm
    subst hmm'
    clear hmm
    rw [c_par] at hi
    have each : ∀ i, i < len → ∃ q : PPar × Value, Toks w q.2 q.1.dflt ∧ (∀ t ∈ q.1.dflt, TokBd t) ∧ LenPar (D i) q ∧ ∀ j u, (parQ q)[j]? = some u → w.cell? ((a.add (i * 3)).add j) = some u := by
      intro i hil
      obtain ⟨cs', hc, ht⟩ := hi i (by omega)
      obtain ⟨q, rfl, h1, h2, h3⟩ := open_par ht
      obtain ⟨_, _, hat⟩ := World.cells?_some hc
      exact ⟨q, h1, h2, h3, fun j u hj => by rw [hat j (List.getElem?_eq_some_iff.1 hj).1]; exact hj⟩
    obtain ⟨qs, hlen, hp⟩ := list_of each
    refine ⟨qs, ⟨?_, fun q hq => ?_⟩, fun q hq => ?_, by simp [lenD, hlen], fun i q hil => ?_⟩
    · rcases Nat.eq_zero_or_pos len with h0 | h0
      · subst h0
        have hnil : qs = [] := List.eq_nil_of_length_eq_zero hlen
        subst hnil
        rcases Nat.eq_zero_or_pos cap with hc0 | hc0
        · subst hc0; exact Or.inl ⟨⟨_, rfl⟩, rfl⟩
        · obtain ⟨cs', hc, _⟩ := hi 0 hc0
          obtain ⟨_, hcl, hat⟩ := World.cells?_some hc
          have h0 := hat 0 (by omega)
          rw [List.getElem?_eq_getElem (by omega)] at h0
          obtain ⟨b, o, spot⟩ := a
          have hs : spot = none := by simpa [Addr.add] using World.cell?_spot h0
          subst hs
          exact Or.inr ⟨b, o, cap, rfl, Nat.zero_le _, hm, fun k t hk => by cases hk⟩
      · obtain ⟨t0, ht0⟩ : ∃ t, qs[0]? = some t := ⟨_, List.getElem?_eq_getElem (by omega)⟩
        have h0 := (hp 0 t0 ht0).2.2.2 0 _ rfl
        obtain ⟨b, o, spot⟩ := a
        have hs : spot = none := by simpa [Addr.add] using World.cell?_spot h0
        subst hs
        refine Or.inr ⟨b, o, cap, by rw [hlen], by omega, hm, fun k t hk j u hu => ?_⟩
        have := (hp k t hk).2.2.2 j u hu
        rw [add_flat, add_flat] at this
        exact this
    · obtain ⟨k, hk⟩ := List.getElem?_of_mem hq
      exact (hp k q hk).1
    · obtain ⟨k, hk⟩ := List.getElem?_of_mem hq
      exact (hp k q hk).2.1
    · obtain ⟨_, _, h3, _⟩ := hp i q hil
      have hlt := (List.getElem?_eq_some_iff.1 hil).1
      exact ⟨D i, by show ((List.range len).map D)[i]? = _; rw [List.getElem?_map, List.getElem?_range (by omega)]; rfl, h3⟩

/-- What is known of a macro's datum. -/
def LenMac (d : DataW H) (qs : List (PPar × Value)) (ls : List (List Tok)) : Prop :=
  ∃ d0 d1 d2, d = .agg [d0, d1, d2] ∧ lenD d1 = qs.length ∧ (∀ (i : Nat) (q : PPar × Value), qs[i]? = some q → ∃ e, (elemsD d1)[i]? = some e ∧ LenPar e q) ∧ LensD d2 ls

theorem open_mac {r : Reach} {b0 : Nat} {v : Value} {d : DataW H} {p : List MemPlace} (hv : Value.okWide Tryd.prog w r b0 49 v) (h : DataW.Trod enc Tryd.prog w base (fun _ => true) held 49 v d p) :
    ∃ name pv qs lv ls, v = .agg #[.string (B name), pv, lv] ∧ ParsQ w pv qs ∧ Lins w lv ls ∧ (∀ q ∈ qs, ∀ t ∈ q.1.dflt, TokBd t) ∧ (∀ l ∈ ls, ∀ t ∈ l, TokBd t) ∧ LenMac d qs ls := by
  obtain ⟨cs, rfl, hsz⟩ := okWide_struct Tryd.underlying49 hv
  obtain ⟨l⟩ := cs
  match l, hsz.trans c_mac with
  | [c0, c1, c2], _ =>
    obtain ⟨fuel, hf⟩ := h
    obtain ⟨xs, n, _, hx, _, hlen, hg⟩ := DataW.trod_struct Tryd.underlying49 hf
    match xs, hlen with
    | [y0, y1, y2], _ =>
      have g0 := hg 0 _ rfl
      have g1 := hg 1 _ rfl
      have g2 := hg 2 _ rfl
      simp [Value.cells, c_str, c_pars, c_lins] at g0 g1 g2
      obtain ⟨s, e0, _, _⟩ := DataW.trod_string Tryd.underlying9 g0
      obtain ⟨qs, h1, h2, h3, h4⟩ := open_pars1 g1
      obtain ⟨ls, k1, k2, k3⟩ := open_lins1 g2
      simp only [List.cons.injEq, and_true] at e0
      subst e0
      injection hx with hx _
      exact ⟨s.data.toList, c1, qs, c2, ls, rfl, h1, k1, h2, k2, _, _, _, hx, h3, h4, k3⟩

theorem b_pars : Tryd.prog.bytesOf 96 = 48 := by kernel_rfl

theorem mac_small {d : DataW H} {qs : List (PPar × Value)} {ls : List (List Tok)} (h : (d.weights Tryd.prog 49).all (· ≤ reachBytes) = true) (hz : LenMac d qs ls) :
    qs.length ≤ 140737488351232 ∧ (∀ q ∈ qs, q.1.dflt.length ≤ 140737488351232) ∧ ls.length ≤ 140737488351232 ∧ ∀ l ∈ ls, l.length ≤ 140737488351232 := by
  obtain ⟨d0, d1, d2, rfl, h1, h2, h3⟩ := hz
  rw [DataW.weights, Tryd.underlying49] at h
  have w1 := weights_at 1 h rfl rfl
  have w2 := weights_at 2 h rfl rfl
  obtain ⟨k1, k2⟩ := weights_slice Tryd.underlying47 w1
  rw [b_pars, h1] at k1
  unfold reachBytes at k1
  have k3 := lins_small w2 h3
  refine ⟨by omega, fun q hq => ?_, k3.1, k3.2⟩
  obtain ⟨k, hk⟩ := List.getElem?_of_mem hq
  obtain ⟨e, he, e0, e1, e2, rfl, hlen⟩ := h2 k q hk
  have k4 := k2 _ (List.mem_of_getElem? he)
  rw [DataW.weights, Tryd.underlying96] at k4
  exact toks_small (weights_at 2 k4 rfl rfl) hlen

end

end Go.Proofs.YtbkgdepblaibkaaDoor

