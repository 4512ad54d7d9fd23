/- Contracts of package block: ended. -/
import Derived.Test.YtbkgdepblaibkaaDoorBlkx
import Derived.OwnWalk
namespace Go.Proofs.YtbkgdepblaibkaaDoor
open Go.RowKit
set_option linter.unusedVariables false
set_option linter.unusedSimpArgs false

/-- What comes of looking for an end. -/
def RetEnd (r : BRes) (w : World) (e : Ending) (w' : World) : Prop :=
  ∃ x y v, e = .returned (.tuple #[.int .i64 x, .int .i64 y, v]) ∧ Nx w w' ∧ ((r = .ok x y ∧ v = .nilIface) ∨ (∃ l c, r = .bad l c ∧ x = 0 ∧ y = 0 ∧ FaultIs w' v l c 15))

/-- The frames' cells, the first one first. -/
def stC (st : List (Nat × Bool)) : List Value := st.reverse.flatMap fun p => [.int .i64 (p.1 : Nat), .bool p.2]

theorem stC_cons (a : Nat × Bool) (st : List (Nat × Bool)) : stC (a :: st) = stC st ++ [.int .i64 (a.1 : Nat), .bool a.2] := by
  unfold stC
  rw [List.reverse_cons, List.flatMap_append]
  rfl

theorem stC_len (st : List (Nat × Bool)) : (stC st).length = st.length * 2 := by
  induction st with
  | nil => rfl
  | cons a st ih => rw [stC_cons, List.length_append, ih]; simp; omega

theorem stC_top (k : Nat) (h : Bool) (st : List (Nat × Bool)) : (stC ((k, h) :: st))[st.length * 2]? = some (.int .i64 k) ∧ (stC ((k, h) :: st))[st.length * 2 + 1]? = some (.bool h) ∧ (stC ((k, h) :: st)).take (st.length * 2) = stC st ∧ (stC ((k, h) :: st)).set (st.length * 2 + 1) (.bool true) = stC ((k, true) :: st) := by
  rw [stC_cons, stC_cons]
  have := stC_len st
  refine ⟨?_, ?_, ?_, ?_⟩
  · rw [List.getElem?_append_right (by omega), this]; simp
  · rw [List.getElem?_append_right (by omega), this, show st.length * 2 + 1 - st.length * 2 = 1 by omega]; rfl
  · rw [← this, List.take_left]
  · rw [List.set_append, if_neg (by omega), this, show st.length * 2 + 1 - st.length * 2 = 1 by omega]; rfl

theorem frame_info : (Tryd.prog.info? 110).map (fun i => (i.zero, i.size, i.bytes)) = some (some (.agg #[.int .i64 0, .bool false]), 2, 16) := by kernel_rfl

theorem line_at {w : World} {v : Value} {ls : List (List Tok)} (h : Lins w v ls) (k : Nat) (l : List Tok) (hk : ls[k]? = some l) :
    ∃ g o c u, v = .slice (some ⟨g, o, none⟩) ls.length c ∧ ls.length ≤ c ∧ w.cell? ⟨g, o + k, none⟩ = some u ∧ Toks w u l := by
  rcases h with ⟨_, h⟩ | ⟨g, o, c, h1, h2, h3, h4⟩
  · subst h; cases hk
  · obtain ⟨u, h5, h6⟩ := h4 k l hk
    exact ⟨g, o, c, u, h1, h2, h5, h6⟩

set_option maxHeartbeats 1000000 in
theorem ended_out (v : Value) (ls : List (List Tok)) (a : Int) (w : World) (hL : Lins w v ls) (h : a < 0 ∨ (ls.length : Int) ≤ a) :
    Calls Tryd.prog 44 #[v, .int .i64 a] w (RetEnd (endP ls a) w) := by
  obtain ⟨A, c, rfl, hc1, hc2, hA⟩ := hL.form
  have HV := Lib.hid (show endP ls a = .bad 0 0 by unfold endP; rw [if_pos h])
  clear hL hA
  rcases h with h | h
  · go_enter Tryd.func44, Tryd.ntmps44
    go_wp2_with fail
    refine (open_nil _).mono ?_
    rintro e w1 ⟨u, l, c, rfl, hb, hF, hn⟩
    have HF := Lib.hid hF
    have HB := Lib.hid hb
    clear hF hb
    go_wp2
    go_ret3
    cases HB.out
    exact ⟨0, 0, u, rfl, hn, Or.inr ⟨0, 0, HV.out, rfl, rfl, HF.out⟩⟩
  · have h0 : decide (a < 0) = false := decide_eq_false (by omega)
    go_enter Tryd.func44, Tryd.ntmps44
    go_wp2_with fail
    refine (open_nil _).mono ?_
    rintro e w1 ⟨u, l, c, rfl, hb, hF, hn⟩
    have HF := Lib.hid hF
    have HB := Lib.hid hb
    clear hF hb
    go_wp2
    go_ret3
    cases HB.out
    exact ⟨0, 0, u, rfl, hn, Or.inr ⟨0, 0, HV.out, rfl, rfl, HF.out⟩⟩

set_option maxHeartbeats 1000000 in
theorem ended_plain (v : Value) (ls : List (List Tok)) (a : Nat) (l : List Tok) (w : World) (hL : Lins w v ls) (hl : ls[a]? = some l) (hb : begB (kindP l) = false) :
    Calls Tryd.prog 44 #[v, .int .i64 a] w (RetEnd (endP ls a) w) := by
  obtain ⟨ha, hla⟩ := List.getElem?_eq_some_iff.1 hl
  have hgd : ls.getD a [] = l := by rw [List.getD_eq_getElem?_getD, hl]; rfl
  have HV := Lib.hid (show endP ls a = badAt l by unfold endP; rw [if_neg (by omega), show ((a : Int)).toNat = a by simp, hgd, if_neg (by rw [hb]; simp)])
  obtain ⟨g, o, c, u, rfl, hc1, hcell, hT⟩ := line_at hL a l hl
  have hk := kindP_le l
  have C1 := Lib.hid (kindOf_any u l w hT)
  have C2 := Lib.hid (begins_any (kindP l) w hk)
  rw [hb] at C2
  have C2 := Lib.hid C2
  have C3 := Lib.hid (open_any u l w hT)
  clear hL hla hgd hb hl hT
  generalize kindP l = q at *
  generalize ls.length = n at *
  go_enter Tryd.func44, Tryd.ntmps44
  go_wp2_with fail
  refine C1.out.mono ?_
  rintro e w1 ⟨rfl, rfl⟩
  go_wp2_with fail
  refine C2.out.mono ?_
  rintro e w1 ⟨rfl, rfl⟩
  go_wp2_with fail
  refine C3.out.mono ?_
  rintro e w1 ⟨u, l', c', rfl, hb, hF, hn⟩
  have HF := Lib.hid hF
  have HB := Lib.hid hb
  clear hF hb
  go_wp2
  go_ret3
  exact ⟨0, 0, u, rfl, hn, Or.inr ⟨l', c', HV.out.trans HB.out, rfl, rfl, HF.out⟩⟩

/-- What holds at a round's head: the other half, the frames, the place. -/
def EndRel (fail : BRes) (ls : List (List Tok)) (w wr : World) (V : BRes) (ov sv nv : Value) : Prop :=
  ∃ (k : Nat) (st : List (Nat × Bool)) (o : Int), k ≤ ls.length ∧ nv = .int .i64 k ∧ ov = .int .i64 o ∧ st ≠ [] ∧ st.length ≤ k ∧ OwnC wr w.heap.size 110 2 sv st.length (stC st) ∧ Nx w wr ∧ goP fail st o k (ls.drop k) = V

set_option maxHeartbeats 8000000 in
set_option maxRecDepth 100000 in
theorem ended_in (v : Value) (ls : List (List Tok)) (a : Nat) (l : List Tok) (w : World) (hL : Lins w v ls) (hn : ls.length ≤ 1000000) (hl : ls[a]? = some l) (hb : begB (kindP l) = true) :
    Calls Tryd.prog 44 #[v, .int .i64 a] w (RetEnd (endP ls a) w) := by
  obtain ⟨i0, hi, hz0, hz1, hz2⟩ := info_parts frame_info
  obtain ⟨ha, hla⟩ := List.getElem?_eq_some_iff.1 hl
  have hgd : ls.getD a [] = l := by rw [List.getD_eq_getElem?_getD, hl]; rfl
  have HV := Lib.hid (show goP (badAt l) [(kindP l, false)] (-1) (a + 1) (ls.drop (a + 1)) = endP ls a by unfold endP; rw [if_neg (by omega), show ((a : Int)).toNat = a by simp, hgd, if_pos hb])
  generalize endP ls a = V at *
  obtain ⟨g, o, c, u, rfl, hc1, hcell, hT⟩ := line_at hL a l hl
  have hk := kindP_le l
  have C1 := Lib.hid (kindOf_any u l w hT)
  have C2 := begins_any (kindP l) w hk
  rw [hb] at C2
  have C2 := Lib.hid C2
  have HL := Lib.hid hL
  have HT := Lib.hid hT
  have HC := Lib.hid hcell
  have HI := Lib.hid (And.intro hi (And.intro hz0 (And.intro hz1 hz2)))
  clear hL hla hgd hb hl hT hi hz0 hz1 hz2
  go_enter Tryd.func44, Tryd.ntmps44
  go_wp2_with fail
  refine C1.out.mono ?_
  rintro e w1 ⟨rfl, rfl⟩
  go_wp2_with fail
  refine C2.out.mono ?_
  rintro e w1 ⟨rfl, rfl⟩
  go_wp2_with fail
  refine C1.out.mono ?_
  rintro e w1 ⟨rfl, rfl⟩
  go_wp2
  go_loopw [5, 7, 8] (fun ov sv nv wr => EndRel (badAt l) ls w wr V ov sv nv) (fun _ _ nv _ => ls.length - (intOf nv).toNat)
  case atStart => exact ⟨a + 1, [(kindP l, false)], -1, by omega, by simp, rfl, by simp, by simp, OwnC.new w _ _ 2 _ 1 (Nat.le_refl _) (by unfold maxLen; omega) rfl, (Nx.refl w).alloc _, HV.out⟩
  case round =>
    obtain ⟨k, st, o2, hk1, rfl, rfl, hst, hsk, hown, hnx, hgo⟩ := hrel
    have HNX := Lib.hid hnx
    have cat := HNX.out.cell HC.out
    have zat := block_lt cat
    by_cases hlt : k < ls.length
    · obtain ⟨lk, hlk⟩ : ∃ x, ls[k]? = some x := ⟨_, List.getElem?_eq_getElem hlt⟩
      obtain ⟨g', o', c', u2, he, _, hc2, hT2⟩ := line_at (HL.out.nx HNX.out) k lk hlk
      cases he
      have hd : ls.drop k = lk :: ls.drop (k + 1) := by
        obtain ⟨h1, e1⟩ := List.getElem?_eq_some_iff.1 hlk
        rw [List.drop_eq_getElem_cons h1, e1]
      rw [hd] at hgo
      have HT2 := Lib.hid hT2
      have hq7 := kindP_le lk
      have C3 := Lib.hid (kindOf_any u2 lk wr hT2)
      have C4 := begins_any (kindP lk) wr hq7
      have CC := closes_any (kindP lk) wr hq7
      obtain ⟨⟨tk, half⟩, rest, rfl⟩ : ∃ x r, st = x :: r := by cases st with | nil => exact absurd rfl hst | cons x r => exact ⟨x, r, rfl⟩
      rw [List.length_cons] at hown hsk
      have hxs := stC_top tk half rest
      have hxl := stC_len ((tk, half) :: rest)
      obtain ⟨gs, cap, rfl, hg1, hg2, hg3⟩ := hown.some (by omega)
      have x0 := hown.cells rfl _ _ hxs.1
      have x1 := hown.cells rfl _ _ hxs.2.1
      have f1 := hown.free (g := gs) rfl (rest.length * 2 + 1)
      have zs := block_lt x0
      have HO := Lib.hid hown
      have HXS := Lib.hid hxs
      rw [goP] at hgo
      have hm : rest.length ≤ 1000000 := by omega
      have hm0 : 0 ≤ (rest.length : Int) := by omega
      have hmI : (rest.length : Int) < (rest.length : Int) + 1 := by omega
      have hq := Lib.hid (Eq.refl (kindP lk))
      clear hnx hown hxs hst hd hlk hT2 hxl
      by_cases hbq : begB (kindP lk) = true
      · rw [hbq] at C4
        rw [if_pos hbq] at hgo
        have HG := Lib.hid hgo
        have C4 := Lib.hid C4
        have hO2 := Lib.hid (HO.out.alloc (.cells #[.int .i64 (kindP lk : Nat), .bool false] 110))
        obtain ⟨hi, hz0, hz1, hz2⟩ := HI.out
        clear hgo hbq CC
        go_wp2_with fail
        refine C3.out.mono ?_
        rintro e w1 ⟨rfl, rfl⟩
        go_wp2_with fail
        refine C4.out.mono ?_
        rintro e w1 ⟨rfl, rfl⟩
        go_wp2_with (at_builtin; refine wpList_append_c _ rfl _ _ 111 rfl w.heap.size 110 i0 (.agg #[.int .i64 0, .bool false]) 2 16 Tryd.underlying111 hi hz0 hz1 hz2 rfl (by decide) _ _ _ rfl hO2.out (some ⟨wr.heap.size, 0, none⟩) 1 1 [.int .i64 (kindP lk : Nat), .bool false] rfl rfl (Or.inr ⟨_, rfl, ?c1⟩) ?c2 ?c3 ?c4 ?c5 ?_)
        case c1 =>
          intro j x hj
          have hj2 : j = 0 ∨ j = 1 := by have := (List.getElem?_eq_some_iff.1 hj).1; simp at this; omega
          rcases hj2 with rfl | rfl <;> (cases hj; simp [Addr.add])
        case c2 => simp [Value.oneCell']
        case c3 => unfold maxLen; omega
        case c4 => omega
        case c5 => have := HNX.out.size; simp; omega
        intro v3 w3 hown3 hgr3 hbl3
        have HN3 : Nx w w3 := Below.grown (HNX.out.alloc _) hgr3 (by have := HNX.out.size; simp; omega) (fun k hk => by simp [Value.ownBlock] at hk; omega)
        have HO3 := Lib.hid hown3
        have HX3 := Lib.hid HN3
        clear hown3 hgr3 hbl3 HN3 hO2
        go_wp2
        go_roundw
        case rel => exact ⟨k + 1, (kindP lk, false) :: (tk, half) :: rest, o2, by omega, by go_num, rfl, by simp, by simp; omega, by rw [stC_cons (kindP lk, false)]; exact HO3.out, HX3.out, HG.out⟩
        case measure => simp [intOf]; omega
      · have hbf : begB (kindP lk) = false := by simpa using hbq
        rw [hbf] at C4
        rw [if_neg hbq] at hgo
        have C4 := Lib.hid C4
        have hq' : kindP lk = 0 ∨ kindP lk = 2 ∨ kindP lk = 4 ∨ kindP lk = 6 ∨ kindP lk = 7 := by
          have : ¬ (kindP lk = 1 ∨ kindP lk = 3 ∨ kindP lk = 5) := fun hc => hbq (by rcases hc with h | h | h <;> rw [h] <;> rfl)
          omega
        rcases hq' with hkq | hkq | hkq | hkq | hkq
        · rw [hkq, if_pos (show ofN 0 = 0 from rfl)] at hgo
          rw [hkq] at C3 C4 CC
          have CC := Lib.hid (show Calls Tryd.prog 60 #[.int .i64 ((0 : Nat) : Int)] wr fun e w' => e = .returned (.int .i64 0) ∧ wr = w' from CC)
          have HG := Lib.hid hgo
          clear hgo hkq hbf hbq hq hq7
          go_wp2_with fail
          refine C3.out.mono ?_
          rintro e w1 ⟨rfl, rfl⟩
          go_wp2_with fail
          refine C4.out.mono ?_
          rintro e w1 ⟨rfl, rfl⟩
          go_wp2_with fail
          refine CC.out.mono ?_
          rintro e w1 ⟨rfl, rfl⟩
          go_wp2
          go_roundw
          case rel => exact ⟨k + 1, (tk, half) :: rest, o2, by omega, by go_num, rfl, by simp, by simp; omega, HO.out, HNX.out, HG.out⟩
          case measure => simp [intOf]; omega
        · have hof : ofN 2 = 1 := rfl
          rw [hkq, hof, if_neg (show ¬ (1 : Nat) = 0 by decide)] at hgo
          rw [hkq] at C3 C4 CC
          rw [hof] at CC
          have CC := Lib.hid CC
          clear hkq hof hbf hbq hq hq7
          by_cases htk : tk = 1
          · subst htk
            have tq : (((1 : Nat) : Int) != 1) = false := by decide
            rw [if_neg (by simp), if_neg (show ¬ (2 : Nat) = 6 by decide)] at hgo
            cases rest with
            | nil =>
              rw [if_pos rfl] at hgo
              have HG := Lib.hid hgo
              clear hgo
              simp only [List.length_nil, Nat.zero_mul, Nat.zero_add] at x0 x1 f1 hg2
              go_wp2_with fail
              refine C3.out.mono ?_
              rintro e w1 ⟨rfl, rfl⟩
              go_wp2_with fail
              refine C4.out.mono ?_
              rintro e w1 ⟨rfl, rfl⟩
              go_wp2_with fail
              refine CC.out.mono ?_
              rintro e w1 ⟨rfl, rfl⟩
              go_wp2
              go_ret3
              exact ⟨k, o2, .nilIface, rfl, HNX.out, Or.inl ⟨HG.out.symm, rfl⟩⟩
            | cons r0 rr =>
              rw [if_neg (by simp)] at hgo
              have HG := Lib.hid hgo
              clear hgo
              obtain ⟨m, hmm⟩ : ∃ m, m = (r0 :: rr).length := ⟨_, rfl⟩
              have hm1 : 0 < m := by rw [hmm]; simp
              have HM := Lib.hid hmm
              have hC := HO.out.cut (r0 :: rr).length (by omega)
              rw [HXS.out.2.2.1] at hC
              have HS := Lib.hid hC
              clear hC
              rw [← hmm] at x0 x1 f1 HS hg2 hm hm0 hmI hsk ⊢
              clear hmm
              have hz1 : ((m : Int) == 0) = false := by simp; omega
              go_wp2_with fail
              refine C3.out.mono ?_
              rintro e w1 ⟨rfl, rfl⟩
              go_wp2_with fail
              refine C4.out.mono ?_
              rintro e w1 ⟨rfl, rfl⟩
              go_wp2_with fail
              refine CC.out.mono ?_
              rintro e w1 ⟨rfl, rfl⟩
              go_wp2
              go_roundw
              case rel => exact ⟨k + 1, r0 :: rr, o2, by omega, by go_num, rfl, by simp, by rw [← HM.out]; omega, by rw [← HM.out]; exact HS.out, HNX.out, HG.out⟩
              case measure => simp [intOf]; omega
          · have tq : ((tk : Int) != 1) = true := by simp; omega
            rw [if_pos (Or.inl htk)] at hgo
            have HG := Lib.hid hgo
            clear hgo htk
            have C5 := Lib.hid (open_any u2 lk wr HT2.out)
            go_wp2_with fail
            refine C3.out.mono ?_
            rintro e w1 ⟨rfl, rfl⟩
            go_wp2_with fail
            refine C4.out.mono ?_
            rintro e w1 ⟨rfl, rfl⟩
            go_wp2_with fail
            refine CC.out.mono ?_
            rintro e w1 ⟨rfl, rfl⟩
            go_wp2_with fail
            refine C5.out.mono ?_
            rintro e w1 ⟨u9, l9, c9, rfl, hb9, hF9, hn9⟩
            have HF := Lib.hid hF9
            have HB := Lib.hid hb9
            clear hF9 hb9
            go_wp2
            go_ret3
            exact ⟨0, 0, u9, rfl, HNX.out.trans hn9, Or.inr ⟨l9, c9, HG.out.symm.trans HB.out, rfl, rfl, HF.out⟩⟩
        · have hof : ofN 4 = 3 := rfl
          rw [hkq, hof, if_neg (show ¬ (3 : Nat) = 0 by decide)] at hgo
          rw [hkq] at C3 C4 CC
          rw [hof] at CC
          have CC := Lib.hid CC
          clear hkq hof hbf hbq hq hq7
          by_cases htk : tk = 3
          · subst htk
            have tq : (((3 : Nat) : Int) != 3) = false := by decide
            rw [if_neg (by simp), if_neg (show ¬ (4 : Nat) = 6 by decide)] at hgo
            cases rest with
            | nil =>
              rw [if_pos rfl] at hgo
              have HG := Lib.hid hgo
              clear hgo
              simp only [List.length_nil, Nat.zero_mul, Nat.zero_add] at x0 x1 f1 hg2
              go_wp2_with fail
              refine C3.out.mono ?_
              rintro e w1 ⟨rfl, rfl⟩
              go_wp2_with fail
              refine C4.out.mono ?_
              rintro e w1 ⟨rfl, rfl⟩
              go_wp2_with fail
              refine CC.out.mono ?_
              rintro e w1 ⟨rfl, rfl⟩
              go_wp2
              go_ret3
              exact ⟨k, o2, .nilIface, rfl, HNX.out, Or.inl ⟨HG.out.symm, rfl⟩⟩
            | cons r0 rr =>
              rw [if_neg (by simp)] at hgo
              have HG := Lib.hid hgo
              clear hgo
              obtain ⟨m, hmm⟩ : ∃ m, m = (r0 :: rr).length := ⟨_, rfl⟩
              have hm1 : 0 < m := by rw [hmm]; simp
              have HM := Lib.hid hmm
              have hC := HO.out.cut (r0 :: rr).length (by omega)
              rw [HXS.out.2.2.1] at hC
              have HS := Lib.hid hC
              clear hC
              rw [← hmm] at x0 x1 f1 HS hg2 hm hm0 hmI hsk ⊢
              clear hmm
              have hz1 : ((m : Int) == 0) = false := by simp; omega
              go_wp2_with fail
              refine C3.out.mono ?_
              rintro e w1 ⟨rfl, rfl⟩
              go_wp2_with fail
              refine C4.out.mono ?_
              rintro e w1 ⟨rfl, rfl⟩
              go_wp2_with fail
              refine CC.out.mono ?_
              rintro e w1 ⟨rfl, rfl⟩
              go_wp2
              go_roundw
              case rel => exact ⟨k + 1, r0 :: rr, o2, by omega, by go_num, rfl, by simp, by rw [← HM.out]; omega, by rw [← HM.out]; exact HS.out, HNX.out, HG.out⟩
              case measure => simp [intOf]; omega
          · have tq : ((tk : Int) != 3) = true := by simp; omega
            rw [if_pos (Or.inl htk)] at hgo
            have HG := Lib.hid hgo
            clear hgo htk
            have C5 := Lib.hid (open_any u2 lk wr HT2.out)
            go_wp2_with fail
            refine C3.out.mono ?_
            rintro e w1 ⟨rfl, rfl⟩
            go_wp2_with fail
            refine C4.out.mono ?_
            rintro e w1 ⟨rfl, rfl⟩
            go_wp2_with fail
            refine CC.out.mono ?_
            rintro e w1 ⟨rfl, rfl⟩
            go_wp2_with fail
            refine C5.out.mono ?_
            rintro e w1 ⟨u9, l9, c9, rfl, hb9, hF9, hn9⟩
            have HF := Lib.hid hF9
            have HB := Lib.hid hb9
            clear hF9 hb9
            go_wp2
            go_ret3
            exact ⟨0, 0, u9, rfl, HNX.out.trans hn9, Or.inr ⟨l9, c9, HG.out.symm.trans HB.out, rfl, rfl, HF.out⟩⟩
        · have hof : ofN 6 = 5 := rfl
          rw [hkq, hof, if_neg (show ¬ (5 : Nat) = 0 by decide)] at hgo
          rw [hkq] at C3 C4 CC
          rw [hof] at CC
          have CC := Lib.hid CC
          clear hkq hof hbf hbq hq hq7
          by_cases htk : tk = 5
          · subst htk
            have tq : (((5 : Nat) : Int) != 5) = false := by decide
            cases half
            · rw [if_neg (by simp), if_pos rfl] at hgo
              have hS := HO.out.store (rest.length * 2 + 1) (.bool true) (by omega)
              rw [HXS.out.2.2.2] at hS
              have HS := Lib.hid hS
              clear hS
              cases rest with
              | nil =>
                rw [if_pos rfl] at hgo
                have HG := Lib.hid hgo
                clear hgo
                simp only [List.length_nil, Nat.zero_mul, Nat.zero_add] at x0 x1 f1 HS hg2
                go_wp2_with fail
                refine C3.out.mono ?_
                rintro e w1 ⟨rfl, rfl⟩
                go_wp2_with fail
                refine C4.out.mono ?_
                rintro e w1 ⟨rfl, rfl⟩
                go_wp2_with fail
                refine CC.out.mono ?_
                rintro e w1 ⟨rfl, rfl⟩
                go_wp2
                go_roundw
                case rel => exact ⟨k + 1, [(5, true)], k, by omega, by go_num, rfl, by simp, by simp, HS.out, HNX.out.setCell hg1 _, HG.out⟩
                case measure => simp [intOf]; omega
              | cons r0 rr =>
                rw [if_neg (by simp)] at hgo
                have HG := Lib.hid hgo
                clear hgo
                obtain ⟨m, hmm⟩ : ∃ m, m = (r0 :: rr).length := ⟨_, rfl⟩
                have hm1 : 0 < m := by rw [hmm]; simp
                have HM := Lib.hid hmm
                rw [← hmm] at x0 x1 f1 HS hg2 hm hm0 hmI hsk ⊢
                clear hmm
                have hz1 : ((m : Int) == 0) = false := by simp; omega
                go_wp2_with fail
                refine C3.out.mono ?_
                rintro e w1 ⟨rfl, rfl⟩
                go_wp2_with fail
                refine C4.out.mono ?_
                rintro e w1 ⟨rfl, rfl⟩
                go_wp2_with fail
                refine CC.out.mono ?_
                rintro e w1 ⟨rfl, rfl⟩
                go_wp2
                go_roundw
                case rel => exact ⟨k + 1, (5, true) :: r0 :: rr, o2, by omega, by go_num, rfl, by simp, by rw [List.length_cons, ← HM.out]; omega, by rw [List.length_cons, ← HM.out]; exact HS.out, HNX.out.setCell hg1 _, HG.out⟩
                case measure => simp [intOf]; omega
            · rw [if_pos (Or.inr ⟨rfl, rfl⟩)] at hgo
              have HG := Lib.hid hgo
              clear hgo
              have C5 := Lib.hid (open_any u2 lk wr HT2.out)
              go_wp2_with fail
              refine C3.out.mono ?_
              rintro e w1 ⟨rfl, rfl⟩
              go_wp2_with fail
              refine C4.out.mono ?_
              rintro e w1 ⟨rfl, rfl⟩
              go_wp2_with fail
              refine CC.out.mono ?_
              rintro e w1 ⟨rfl, rfl⟩
              go_wp2_with fail
              refine C5.out.mono ?_
              rintro e w1 ⟨u9, l9, c9, rfl, hb9, hF9, hn9⟩
              have HF := Lib.hid hF9
              have HB := Lib.hid hb9
              clear hF9 hb9
              go_wp2
              go_ret3
              exact ⟨0, 0, u9, rfl, HNX.out.trans hn9, Or.inr ⟨l9, c9, HG.out.symm.trans HB.out, rfl, rfl, HF.out⟩⟩
          · have tq : ((tk : Int) != 5) = true := by simp; omega
            rw [if_pos (Or.inl htk)] at hgo
            have HG := Lib.hid hgo
            clear hgo htk
            have C5 := Lib.hid (open_any u2 lk wr HT2.out)
            go_wp2_with fail
            refine C3.out.mono ?_
            rintro e w1 ⟨rfl, rfl⟩
            go_wp2_with fail
            refine C4.out.mono ?_
            rintro e w1 ⟨rfl, rfl⟩
            go_wp2_with fail
            refine CC.out.mono ?_
            rintro e w1 ⟨rfl, rfl⟩
            go_wp2_with fail
            refine C5.out.mono ?_
            rintro e w1 ⟨u9, l9, c9, rfl, hb9, hF9, hn9⟩
            have HF := Lib.hid hF9
            have HB := Lib.hid hb9
            clear hF9 hb9
            go_wp2
            go_ret3
            exact ⟨0, 0, u9, rfl, HNX.out.trans hn9, Or.inr ⟨l9, c9, HG.out.symm.trans HB.out, rfl, rfl, HF.out⟩⟩
        · have hof : ofN 7 = 5 := rfl
          rw [hkq, hof, if_neg (show ¬ (5 : Nat) = 0 by decide)] at hgo
          rw [hkq] at C3 C4 CC
          rw [hof] at CC
          have CC := Lib.hid CC
          clear hkq hof hbf hbq hq hq7
          by_cases htk : tk = 5
          · subst htk
            have tq : (((5 : Nat) : Int) != 5) = false := by decide
            rw [if_neg (by simp), if_neg (show ¬ (7 : Nat) = 6 by decide)] at hgo
            cases rest with
            | nil =>
              rw [if_pos rfl] at hgo
              have HG := Lib.hid hgo
              clear hgo
              simp only [List.length_nil, Nat.zero_mul, Nat.zero_add] at x0 x1 f1 hg2
              go_wp2_with fail
              refine C3.out.mono ?_
              rintro e w1 ⟨rfl, rfl⟩
              go_wp2_with fail
              refine C4.out.mono ?_
              rintro e w1 ⟨rfl, rfl⟩
              go_wp2_with fail
              refine CC.out.mono ?_
              rintro e w1 ⟨rfl, rfl⟩
              go_wp2
              go_ret3
              exact ⟨k, o2, .nilIface, rfl, HNX.out, Or.inl ⟨HG.out.symm, rfl⟩⟩
            | cons r0 rr =>
              rw [if_neg (by simp)] at hgo
              have HG := Lib.hid hgo
              clear hgo
              obtain ⟨m, hmm⟩ : ∃ m, m = (r0 :: rr).length := ⟨_, rfl⟩
              have hm1 : 0 < m := by rw [hmm]; simp
              have HM := Lib.hid hmm
              have hC := HO.out.cut (r0 :: rr).length (by omega)
              rw [HXS.out.2.2.1] at hC
              have HS := Lib.hid hC
              clear hC
              rw [← hmm] at x0 x1 f1 HS hg2 hm hm0 hmI hsk ⊢
              clear hmm
              have hz1 : ((m : Int) == 0) = false := by simp; omega
              go_wp2_with fail
              refine C3.out.mono ?_
              rintro e w1 ⟨rfl, rfl⟩
              go_wp2_with fail
              refine C4.out.mono ?_
              rintro e w1 ⟨rfl, rfl⟩
              go_wp2_with fail
              refine CC.out.mono ?_
              rintro e w1 ⟨rfl, rfl⟩
              go_wp2
              go_roundw
              case rel => exact ⟨k + 1, r0 :: rr, o2, by omega, by go_num, rfl, by simp, by rw [← HM.out]; omega, by rw [← HM.out]; exact HS.out, HNX.out, HG.out⟩
              case measure => simp [intOf]; omega
          · have tq : ((tk : Int) != 5) = true := by simp; omega
            rw [if_pos (Or.inl htk)] at hgo
            have HG := Lib.hid hgo
            clear hgo htk
            have C5 := Lib.hid (open_any u2 lk wr HT2.out)
            go_wp2_with fail
            refine C3.out.mono ?_
            rintro e w1 ⟨rfl, rfl⟩
            go_wp2_with fail
            refine C4.out.mono ?_
            rintro e w1 ⟨rfl, rfl⟩
            go_wp2_with fail
            refine CC.out.mono ?_
            rintro e w1 ⟨rfl, rfl⟩
            go_wp2_with fail
            refine C5.out.mono ?_
            rintro e w1 ⟨u9, l9, c9, rfl, hb9, hF9, hn9⟩
            have HF := Lib.hid hF9
            have HB := Lib.hid hb9
            clear hF9 hb9
            go_wp2
            go_ret3
            exact ⟨0, 0, u9, rfl, HNX.out.trans hn9, Or.inr ⟨l9, c9, HG.out.symm.trans HB.out, rfl, rfl, HF.out⟩⟩
    · obtain rfl : k = ls.length := by omega
      have C5 := Lib.hid (open_any u l wr (HT.out.nx HNX.out))
      have hgo' : badAt l = V := by
        rw [← hgo, List.drop_length]
        cases st <;> rfl
      have HG := Lib.hid hgo'
      clear hgo hgo' hown hnx hst
      go_wp2_with fail
      refine C5.out.mono ?_
      rintro e w1 ⟨u9, l9, c9, rfl, hb9, hF9, hn9⟩
      have HF := Lib.hid hF9
      have HB := Lib.hid hb9
      clear hF9 hb9
      go_wp2
      go_ret3
      exact ⟨0, 0, u9, rfl, HNX.out.trans hn9, Or.inr ⟨l9, c9, HG.out.symm.trans HB.out, rfl, rfl, HF.out⟩⟩

end Go.Proofs.YtbkgdepblaibkaaDoor
