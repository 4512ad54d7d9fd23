/- Package typecaselaw14: the walk of MacroParts. -/
import Derived.Test.YtbkgdepblaibkaaDoorLawn14
import Derived.IntWalk
namespace Go.Proofs.YtbkgdepblaibkaaDoor
open Go.RowKit
set_option linter.unusedVariables false
set_option linter.unusedSimpArgs false

theorem sumL_take_le (p : List (List Tok)) : ∀ i, sumL (p.take i) ≤ sumL p := by
  induction p with
  | nil => intro i; simp [sumL]
  | cons a p ih =>
    intro i
    cases i with
    | zero => simp [sumL]
    | succ i => rw [List.take_succ_cons, sumL, sumL]; have := ih i; omega

theorem partP_facts (l : List Tok) : (l = [] ∧ partP l = []) ∨ (0 < l.length ∧ 1 ≤ (partP l).length ∧ sumL (partP l) + (partP l).length = l.length + 1) := by
  by_cases h : l = []
  · subst h; exact Or.inl ⟨rfl, rfl⟩
  · have e : partP l = partT l := by unfold partP; rw [if_neg h]
    rw [e]
    obtain ⟨h1, h2, _⟩ := partT_sum l.length l (Nat.le_refl _)
    exact Or.inr ⟨List.length_pos_iff.2 h, h1, h2⟩

theorem partP_part (l p : List Tok) (hp : p ∈ partP l) (h0 : 0 < p.length) : partP p = [p] := by
  have hl : l ≠ [] := fun e => by subst e; cases hp
  have e : partP l = partT l := by unfold partP; rw [if_neg hl]
  rw [e] at hp
  have e2 : partP p = partT p := by unfold partP; rw [if_neg (by intro h; subst h; simp at h0)]
  rw [e2]
  exact part_part l p hp

theorem sumL_mem (p : List (List Tok)) : ∀ a ∈ p, a.length ≤ sumL p := by
  induction p with
  | nil => intro a h; cases h
  | cons b p ih =>
    intro a h
    rw [sumL]
    rcases List.mem_cons.1 h with rfl | h
    · omega
    · have := ih a h; omega

set_option maxHeartbeats 4000000 in
set_option maxRecDepth 100000 in
theorem MacroParts_walk (w0 : World) (hE : ErrT w0) (v : Value) (l : List Tok) (hT : Toks w0 v l) (hB : ∀ t ∈ l, TokBd t) (hs : l.length ≤ 140737488351232) :
    Calls Tryd.prog 9 #[v] w0 fun e w' => e = .returned (.bool true) ∧ Nx w0 w' := by
  have HE := Lib.hid hE
  obtain ⟨A, c, rfl, hc1, hc2, hA⟩ := hT.form
  have HT := Lib.hid hT
  unfold maxLen at hc2
  clear hE hT hA
  by_cases hl : 300 < l.length
  · have d1 : decide ((300 : Int) < l.length) = true := decide_eq_true (by omega)
    go_enter Tryd.func9, Tryd.ntmps9
    go_wp2_with fail
    refine (awakem_any _ HE.out).mono ?_
    rintro e w1 ⟨rfl, hn1⟩
    have H1 := Lib.hid hn1
    clear hn1
    go_wp2
    go_ret
    exact ⟨rfl, H1.out⟩
  · have d1 : decide ((300 : Int) < l.length) = false := decide_eq_false (by omega)
    have HPF := Lib.hid (partP_facts l)
    have HPP := Lib.hid (partP_part l)
    have CP := Lib.hid (fun w' (h : Toks w' (.slice A l.length c) l) => parts_any _ l w' h (by omega))
    generalize partP l = ps at *
    have hsum : sumL ps ≤ 300 ∧ ps.length ≤ 301 := by
      rcases HPF.out with ⟨h1, h2⟩ | ⟨h1, h2, h3⟩
      · subst h2; exact ⟨Nat.zero_le _, Nat.zero_le _⟩
      · omega
    obtain ⟨hsum, hpl⟩ := hsum
    go_enter Tryd.func9, Tryd.ntmps9
    go_wp2_with fail
    refine (awakem_any _ HE.out).mono ?_
    rintro e w1 ⟨rfl, hn1⟩
    have H1 := Lib.hid hn1
    clear hn1
    go_wp2_with fail
    refine (CP.out _ (HT.out.nx H1.out)).mono ?_
    rintro e w3 ⟨v3, rfl, hn3, hO3⟩
    have H3 := Lib.hid (H1.out.trans hn3)
    have HL := Lib.hid hO3.lins
    obtain ⟨A3, c3, rfl⟩ := hO3.form
    clear hn3 hO3 CP
    go_wp2
    go_loopw [4, 5] (fun nv iv wr => ∃ i : Nat, i ≤ ps.length ∧ iv = .int .i64 i ∧ nv = .int .i64 (sumL (ps.take i) : Nat) ∧ Nx w3 wr) (fun _ iv _ => ps.length - (intOf iv).toNat)
    case atStart => exact ⟨0, Nat.zero_le _, rfl, rfl, Nx.refl _⟩
    case round =>
      obtain ⟨i, hi, rfl, rfl, hnx⟩ := hrel
      have HNX := Lib.hid hnx
      clear hnx
      by_cases hlt : i < ps.length
      · obtain ⟨p, hp⟩ : ∃ p, ps[i]? = some p := ⟨_, List.getElem?_eq_getElem hlt⟩
        obtain ⟨g, o, cc, x, he, _, hxc, hxt⟩ := line_at HL.out i p hp
        cases he
        obtain ⟨B1, d1, rfl, hp1, hp2, _⟩ := hxt.form
        have cx := HNX.out.cell hxc
        have y1 := block_lt cx
        have HXT := Lib.hid (hxt.nx HNX.out)
        have hpm := sumL_mem ps p (List.mem_of_getElem? hp)
        have hst : sumL (ps.take (i + 1)) = sumL (ps.take i) + p.length := by rw [take_snoc' _ _ _ hp, sumL_snoc]
        have hsl := sumL_take_le ps i
        have HPM := Lib.hid (HPP.out p (List.mem_of_getElem? hp))
        have HST := Lib.hid hst
        have hiI : decide ((i : Int) < ps.length) = true := decide_eq_true (by omega)
        obtain ⟨m, hm⟩ : ∃ m, sumL (ps.take i) = m := ⟨_, rfl⟩
        rw [hm] at hsl ⊢
        have HM := Lib.hid hm
        clear hp hxt hxc hst hm
        by_cases hp0 : 0 < p.length
        · have hpI : decide ((0 : Int) < p.length) = true := decide_eq_true (by omega)
          go_wp2_with fail
          refine (parts_any _ p _ HXT.out (by omega)).mono ?_
          rintro e w4 ⟨v4, rfl, hn4, hO4⟩
          rw [HPM.out hp0] at hO4
          obtain ⟨A4, c4, rfl⟩ := hO4.form
          have HN4 := Lib.hid (HNX.out.trans hn4)
          clear hn4 hO4
          simp only [List.length_singleton]
          go_wp2
          go_roundw
          case rel => exact ⟨i + 1, by omega, by go_num, by rw [HST.out, HM.out]; go_num, HN4.out⟩
          case measure => simp [intOf]; omega
        · have hpI : decide ((0 : Int) < p.length) = false := decide_eq_false (by omega)
          go_wp2
          go_roundw
          case rel => exact ⟨i + 1, by omega, by go_num, by rw [HST.out, HM.out]; go_num, HNX.out⟩
          case measure => simp [intOf]; omega
      · obtain rfl : i = ps.length := by omega
        have hiI : decide ((ps.length : Int) < ps.length) = false := decide_eq_false (by omega)
        rw [List.take_length]
        rcases HPF.out with ⟨h1, h2⟩ | ⟨h1, h2, h3⟩
        · subst h1 h2
          simp only [List.length_nil]
          go_wp2
          go_ret
          exact ⟨rfl, H3.out.trans HNX.out⟩
        · have hz : ((l.length : Int) == 0) = false := beq_eq_false_iff_ne.2 (by omega)
          obtain ⟨m, hm⟩ : ∃ m, sumL ps = m := ⟨_, rfl⟩
          rw [hm] at h3 hsum ⊢
          have q1 : decide ((1 : Int) ≤ ps.length) = true := decide_eq_true (by omega)
          have q2 : ((m : Int) + ps.length - 1 == l.length) = true := by simp; omega
          clear hm h3
          go_wp2
          go_ret
          exact ⟨rfl, H3.out.trans HNX.out⟩

end Go.Proofs.YtbkgdepblaibkaaDoor
