/- Plain: what a parcel stands for may be. -/
import Derived.Test.YtcdjabfhmhibjaaSlims
namespace Go.Proofs.Ytcdjabfhmhibjaa
open Go.RowKit
set_option linter.unusedVariables false
set_option linter.unusedSimpArgs false

theorem fit12 (v : Int) (h : -2048 ≤ v) (h' : v ≤ 2047) : fitB v 12 = true := by
  unfold fitB sgn Int.bmod
  simp
  split <;> omega

theorem fit13 (v : Int) (h : -4096 ≤ v) (h' : v ≤ 4095) : fitB v 13 = true := by
  unfold fitB sgn Int.bmod
  simp
  split <;> omega

theorem fit21 (v : Int) (h : -1048576 ≤ v) (h' : v ≤ 1048575) : fitB v 21 = true := by
  unfold fitB sgn Int.bmod
  simp
  split <;> omega

theorem j_bd (x : Int) : -2048 ≤ jP x ∧ jP x ≤ 2047 ∧ jP x % 2 = 0 := by
  unfold jP
  generalize runsV x 0 rsJ = v
  have := sgn_range (v * 2 % 4294967296) 12
  have e : (2 : Int) ^ 12 = 4096 := by decide
  refine ⟨by omega, by omega, ?_⟩
  unfold sgn Int.bmod
  simp
  split <;> omega

theorem br_bd (x : Int) : -256 ≤ brP x ∧ brP x ≤ 255 ∧ brP x % 2 = 0 := by
  unfold brP
  generalize runsV x 0 rsB = v
  have := sgn_range (v * 2 % 4294967296) 9
  have e : (2 : Int) ^ 9 = 512 := by decide
  refine ⟨by omega, by omega, ?_⟩
  unfold sgn Int.bmod
  simp
  split <;> omega

theorem far_bd (x : Int) : -512 ≤ farP x ∧ farP x ≤ 511 := by
  unfold farP
  generalize runsV x 0 rsF = v
  have := sgn_range (v * 16 % 4294967296) 10
  have e : (2 : Int) ^ 10 = 1024 := by decide
  omega

theorem mayn (op rd rs1 imm : Int) (hf : formN op = 6 ∨ formN op = 4) (h1 : 0 ≤ rd) (h2 : rd ≤ 31) (h3 : 0 ≤ rs1) (h4 : rs1 ≤ 31) (h5 : -2048 ≤ imm) (h6 : imm ≤ 2047) : mayB op rd rs1 0 imm = true := by
  have h := fit12 imm h5 h6
  rcases hf with hf | hf <;> simp [mayB, hf, regB, needD, needS, needT, numB, h, h1, h2, h3, h4]

theorem maysh (op rd rs1 imm : Int) (hf : formN op = 7) (h1 : 0 ≤ rd) (h2 : rd ≤ 31) (h3 : 0 ≤ rs1) (h4 : rs1 ≤ 31) (h5 : 0 ≤ imm) (h6 : imm ≤ 31) : mayB op rd rs1 0 imm = true := by
  simp [mayB, hf, regB, needD, needS, needT, numB, h1, h2, h3, h4, h5, h6]

theorem mayst (op rs1 rs2 imm : Int) (hf : formN op = 5) (h1 : 0 ≤ rs2) (h2 : rs2 ≤ 31) (h3 : 0 ≤ rs1) (h4 : rs1 ≤ 31) (h5 : -2048 ≤ imm) (h6 : imm ≤ 2047) : mayB op 0 rs1 rs2 imm = true := by
  have h := fit12 imm h5 h6
  simp [mayB, hf, regB, needD, needS, needT, numB, h, h1, h2, h3, h4]

theorem mayre (op rd rs1 rs2 : Int) (hf : formN op = 8) (h1 : 0 ≤ rs2) (h2 : rs2 ≤ 31) (h3 : 0 ≤ rs1) (h4 : rs1 ≤ 31) (h5 : 0 ≤ rd) (h6 : rd ≤ 31) : mayB op rd rs1 rs2 0 = true := by
  simp [mayB, hf, regB, needD, needS, needT, numB, h1, h2, h3, h4, h5, h6]

theorem maybr (op rs1 rs2 imm : Int) (hf : formN op = 3) (h1 : 0 ≤ rs2) (h2 : rs2 ≤ 31) (h3 : 0 ≤ rs1) (h4 : rs1 ≤ 31) (h5 : -256 ≤ imm) (h6 : imm ≤ 255) (h7 : imm % 2 = 0) : mayB op 0 rs1 rs2 imm = true := by
  have h := fit13 imm (by omega) (by omega)
  simp [mayB, hf, regB, needD, needS, needT, numB, h, h1, h2, h3, h4, h7]

theorem mayju (op rd imm : Int) (hf : formN op = 2) (h1 : 0 ≤ rd) (h2 : rd ≤ 31) (h5 : -2048 ≤ imm) (h6 : imm ≤ 2047) (h7 : imm % 2 = 0) : mayB op rd 0 0 imm = true := by
  have h := fit21 imm (by omega) (by omega)
  simp [mayB, hf, regB, needD, needS, needT, numB, h, h1, h2, h7]

theorem mayup (op rd imm : Int) (hf : formN op = 1) (h1 : 0 ≤ rd) (h2 : rd ≤ 31) (h7 : imm % 4096 = 0) : mayB op rd 0 0 imm = true := by
  simp [mayB, hf, regB, needD, needS, needT, numB, h1, h2, h7]

/-- An instruction that may be, and whose number is one of 32 bits. -/
def okI (i : In5) : Prop := i = none5 ∨ (0 < i.op ∧ mayB i.op i.rd i.rs1 i.rs2 i.imm = true)

theorem ok_none : okI none5 := Or.inl rfl

theorem ok_of (op rd rs1 rs2 imm : Int) (h : 0 < op) (h' : mayB op rd rs1 rs2 imm = true) : okI ⟨op, rd, rs1, rs2, imm⟩ := Or.inr ⟨h, h'⟩

theorem ok_fst (x : Int) : okI (fstI x (fld x 13 3) (8 + fld x 7 3) (8 + fld x 2 3)) := by
  have g0 := fld_nonneg x 7 3
  have g1 : fld x 7 3 < 8 := fld_lt x 7 3
  have k0 := fld_nonneg x 2 3
  have k1 : fld x 2 3 < 8 := fld_lt x 2 3
  obtain ⟨u1, u2⟩ := u_bd x
  obtain ⟨n1, n2⟩ := near_bd x
  unfold fstI
  repeat' split
  · exact ok_none
  · exact ok_of _ _ _ _ _ (by decide) (mayn 19 _ _ _ (Or.inl (by decide)) (by omega) (by omega) (by omega) (by omega) (by omega) (by omega))
  · exact ok_of _ _ _ _ _ (by decide) (mayn 13 _ _ _ (Or.inr (by decide)) (by omega) (by omega) (by omega) (by omega) (by omega) (by omega))
  · exact ok_of _ _ _ _ _ (by decide) (mayst 18 _ _ _ (by decide) (by omega) (by omega) (by omega) (by omega) (by omega) (by omega))
  · exact ok_none

theorem ok_upp (x : Int) : okI (uppI x (fld x 7 5) (n6P x)) := by
  have r0 := fld_nonneg x 7 5
  have r1 : fld x 7 5 < 32 := fld_lt x 7 5
  obtain ⟨m0, m1⟩ := n6_bd x
  obtain ⟨u1, u2⟩ := far_bd x
  unfold uppI
  repeat' split
  · exact ok_none
  · exact ok_of _ _ _ _ _ (by decide) (mayn 19 _ _ _ (Or.inl (by decide)) (by omega) (by omega) (by omega) (by omega) (by omega) (by omega))
  · exact ok_of _ _ _ _ _ (by decide) (mayup 1 _ _ (by decide) (by omega) (by omega) (by simp only [wrap32]; omega))

theorem ok_rec (x : Int) : okI (recI (8 + fld x 7 3) (8 + fld x 2 3) (fld x 12 1) (n6P x) (fld x 2 5) (fld x 10 2) (fld x 5 2)) := by
  have g0 := fld_nonneg x 7 3
  have g1 : fld x 7 3 < 8 := fld_lt x 7 3
  have k0 := fld_nonneg x 2 3
  have k1 : fld x 2 3 < 8 := fld_lt x 2 3
  have p0 := fld_nonneg x 2 5
  have p1 : fld x 2 5 < 32 := fld_lt x 2 5
  obtain ⟨m0, m1⟩ := n6_bd x
  unfold recI
  split
  · exact ok_of _ _ _ _ _ (by decide) (mayn 24 _ _ _ (Or.inl (by decide)) (by omega) (by omega) (by omega) (by omega) (by omega) (by omega))
  split
  · exact ok_none
  split
  · exact ok_of _ _ _ _ _ (by decide) (maysh 26 _ _ _ (by decide) (by omega) (by omega) (by omega) (by omega) (by omega) (by omega))
  split
  · exact ok_of _ _ _ _ _ (by decide) (maysh 27 _ _ _ (by decide) (by omega) (by omega) (by omega) (by omega) (by omega) (by omega))
  split
  · exact ok_of _ _ _ _ _ (by decide) (mayre 29 _ _ _ (by decide) (by omega) (by omega) (by omega) (by omega) (by omega) (by omega))
  split
  · exact ok_of _ _ _ _ _ (by decide) (mayre 33 _ _ _ (by decide) (by omega) (by omega) (by omega) (by omega) (by omega) (by omega))
  split
  · exact ok_of _ _ _ _ _ (by decide) (mayre 36 _ _ _ (by decide) (by omega) (by omega) (by omega) (by omega) (by omega) (by omega))
  · exact ok_of _ _ _ _ _ (by decide) (mayre 37 _ _ _ (by decide) (by omega) (by omega) (by omega) (by omega) (by omega) (by omega))

theorem ok_snd (x : Int) : okI (sndI x (fld x 13 3) (fld x 7 5) (8 + fld x 7 3) (8 + fld x 2 3) (fld x 12 1) (n6P x) (jP x) (fld x 2 5) (fld x 10 2) (fld x 5 2)) := by
  have r0 := fld_nonneg x 7 5
  have r1 : fld x 7 5 < 32 := fld_lt x 7 5
  have g0 := fld_nonneg x 7 3
  have g1 : fld x 7 3 < 8 := fld_lt x 7 3
  obtain ⟨m0, m1⟩ := n6_bd x
  obtain ⟨j0, j1, j2⟩ := j_bd x
  obtain ⟨b0, b1, b2⟩ := br_bd x
  unfold sndI
  split
  · exact ok_of _ _ _ _ _ (by decide) (mayn 19 _ _ _ (Or.inl (by decide)) (by omega) (by omega) (by omega) (by omega) (by omega) (by omega))
  split
  · exact ok_of _ _ _ _ _ (by decide) (mayju 3 _ _ (by decide) (by omega) (by omega) (by omega) (by omega) (by omega))
  split
  · exact ok_of _ _ _ _ _ (by decide) (mayn 19 _ _ _ (Or.inl (by decide)) (by omega) (by omega) (by omega) (by omega) (by omega) (by omega))
  split
  · exact ok_upp x
  split
  · exact ok_rec x
  split
  · exact ok_of _ _ _ _ _ (by decide) (mayju 3 _ _ (by decide) (by omega) (by omega) (by omega) (by omega) (by omega))
  split
  · exact ok_of _ _ _ _ _ (by decide) (maybr 5 _ _ _ (by decide) (by omega) (by omega) (by omega) (by omega) (by omega) (by omega) (by omega))
  · exact ok_of _ _ _ _ _ (by decide) (maybr 6 _ _ _ (by decide) (by omega) (by omega) (by omega) (by omega) (by omega) (by omega) (by omega))

theorem ok_thd (x : Int) : okI (thdI x (fld x 13 3) (fld x 7 5) (fld x 2 5) (fld x 12 1) (fld x 2 5)) := by
  have r0 := fld_nonneg x 7 5
  have r1 : fld x 7 5 < 32 := fld_lt x 7 5
  have p0 := fld_nonneg x 2 5
  have p1 : fld x 2 5 < 32 := fld_lt x 2 5
  have b0 := fld_nonneg x 12 1
  have b1 : fld x 12 1 < 2 := fld_lt x 12 1
  obtain ⟨m0, m1⟩ := ls_bd x
  obtain ⟨s0, s1⟩ := ss_bd x
  unfold thdI movI
  repeat' split
  · exact ok_of _ _ _ _ _ (by decide) (maysh 25 _ _ _ (by decide) (by omega) (by omega) (by omega) (by omega) (by omega) (by omega))
  · exact ok_none
  · exact ok_none
  · exact ok_of _ _ _ _ _ (by decide) (mayn 13 _ _ _ (Or.inr (by decide)) (by omega) (by omega) (by omega) (by omega) (by omega) (by omega))
  · exact ok_of _ _ _ _ _ (by decide) (by decide)
  · exact ok_none
  · exact ok_of _ _ _ _ _ (by decide) (mayn 4 _ _ _ (Or.inr (by decide)) (by omega) (by omega) (by omega) (by omega) (by omega) (by omega))
  · exact ok_of _ _ _ _ _ (by decide) (mayre 28 _ _ _ (by decide) (by omega) (by omega) (by omega) (by omega) (by omega) (by omega))
  · exact ok_of _ _ _ _ _ (by decide) (mayre 28 _ _ _ (by decide) (by omega) (by omega) (by omega) (by omega) (by omega) (by omega))
  · exact ok_of _ _ _ _ _ (by decide) (mayst 18 _ _ _ (by decide) (by omega) (by omega) (by omega) (by omega) (by omega) (by omega))
  · exact ok_none

theorem ok_exp (x : Int) : okI (expI x) := by
  unfold expI
  split
  · exact ok_fst x
  split
  · exact ok_snd x
  split
  · exact ok_thd x
  · exact ok_none

theorem exp_eq (x : Int) : expJ x = expI x := by
  unfold expJ
  rcases ok_exp x with h | ⟨h, _⟩
  · rw [h]; rfl
  · rw [if_neg (by omega)]

theorem exp_pos (x : Int) : (!((expI x).op == 0)) = decide (0 < (expI x).op) := by
  rcases ok_exp x with h | ⟨h, _⟩
  · rw [h]; rfl
  · have h' : ((expI x).op == 0) = false := beq_eq_false_iff_ne.2 (by omega)
    rw [h']
    simp [h]

theorem exp_may (x : Int) (h : ((expI x).op == 0) = false) : mayB (expI x).op (expI x).rd (expI x).rs1 (expI x).rs2 (expI x).imm = true := by
  rcases ok_exp x with h' | ⟨_, h'⟩
  · rw [h'] at h; exact absurd h (by decide)
  · exact h'

def bdI (i : In5) : Prop := -2147483648 ≤ i.imm ∧ i.imm ≤ 2147483647

theorem bd_ite {c : Prop} [Decidable c] {a b : In5} (h1 : bdI a) (h2 : bdI b) : bdI (if c then a else b) := by split <;> assumption

theorem bd_none : bdI none5 := ⟨by decide, by decide⟩

theorem bd_of (op rd rs1 rs2 imm : Int) (h : -2147483648 ≤ imm) (h' : imm ≤ 2147483647) : bdI ⟨op, rd, rs1, rs2, imm⟩ := ⟨h, h'⟩

theorem exp_imm (x : Int) : -2147483648 ≤ (expI x).imm ∧ (expI x).imm ≤ 2147483647 := by
  obtain ⟨u1, u2⟩ := u_bd x
  obtain ⟨n1, n2⟩ := near_bd x
  obtain ⟨m0, m1⟩ := n6_bd x
  obtain ⟨j0, j1, j2⟩ := j_bd x
  obtain ⟨b0, b1, b2⟩ := br_bd x
  obtain ⟨l0, l1⟩ := ls_bd x
  obtain ⟨s0, s1⟩ := ss_bd x
  obtain ⟨w1, w2⟩ := far_bd x
  have p0 := fld_nonneg x 2 5
  have p1 : fld x 2 5 < 32 := fld_lt x 2 5
  show bdI (expI x)
  unfold expI fstI sndI thdI uppI recI movI
  repeat' (with_reducible first | apply bd_ite | exact bd_none)
  all_goals (apply bd_of <;> (try simp only [wrap32]) <;> omega)

theorem near_128 (x : Int) : 0 ≤ nearP x ∧ nearP x < 128 := by
  have a1 := fld_nonneg x 5 1
  have b1 : fld x 5 1 < 2 := fld_lt x 5 1
  have a2 := fld_nonneg x 10 3
  have b2 : fld x 10 3 < 8 := fld_lt x 10 3
  have a3 := fld_nonneg x 6 1
  have b3 : fld x 6 1 < 2 := fld_lt x 6 1
  show 0 ≤ (((0 * 2 ^ 1 % 4294967296 + fld x 5 1) * 2 ^ 3 % 4294967296 + fld x 10 3) * 2 ^ 1 % 4294967296 + fld x 6 1) * 4 % 4294967296 ∧ (((0 * 2 ^ 1 % 4294967296 + fld x 5 1) * 2 ^ 3 % 4294967296 + fld x 10 3) * 2 ^ 1 % 4294967296 + fld x 6 1) * 4 % 4294967296 < 128
  omega

theorem u_1024 (x : Int) : 0 ≤ uP x ∧ uP x < 1024 ∧ uP x % 4 = 0 := by
  have a1 := fld_nonneg x 7 4
  have b1 : fld x 7 4 < 16 := fld_lt x 7 4
  have a2 := fld_nonneg x 11 2
  have b2 : fld x 11 2 < 4 := fld_lt x 11 2
  have a3 := fld_nonneg x 5 1
  have b3 : fld x 5 1 < 2 := fld_lt x 5 1
  have a4 := fld_nonneg x 6 1
  have b4 : fld x 6 1 < 2 := fld_lt x 6 1
  have e : uP x = ((((0 * 2 ^ 4 % 4294967296 + fld x 7 4) * 2 ^ 2 % 4294967296 + fld x 11 2) * 2 ^ 1 % 4294967296 + fld x 5 1) * 2 ^ 1 % 4294967296 + fld x 6 1) * 4 % 4294967296 := rfl
  rw [e]
  omega

/-- What a parcel of the quarter 0 stands for. -/
theorem exp_few (x : Int) (hq : x % 4 = 0) : expI x = none5 ∨ (∃ r u, expI x = ⟨19, r, 2, 0, u⟩ ∧ 8 ≤ r ∧ r < 16 ∧ 0 < u ∧ u < 1024 ∧ u % 4 = 0) ∨
    (∃ r s v, expI x = ⟨13, r, s, 0, v⟩ ∧ 8 ≤ r ∧ r < 16 ∧ 8 ≤ s ∧ s < 16 ∧ 0 ≤ v ∧ v < 128) ∨ (∃ r s v, expI x = ⟨18, 0, r, s, v⟩ ∧ 8 ≤ r ∧ r < 16 ∧ 8 ≤ s ∧ s < 16 ∧ 0 ≤ v ∧ v < 128) := by
  have g0 := fld_nonneg x 7 3
  have g1 : fld x 7 3 < 8 := fld_lt x 7 3
  have k0 := fld_nonneg x 2 3
  have k1 : fld x 2 3 < 8 := fld_lt x 2 3
  have h0 : fld x 0 2 = 0 := by unfold fld; simp; exact hq
  obtain ⟨u1, u2, u3⟩ := u_1024 x
  obtain ⟨n1, n2⟩ := near_128 x
  unfold expI
  rw [if_pos h0]
  unfold fstI
  by_cases c0 : fld x 13 3 = 0
  · rw [if_pos c0]
    by_cases c1 : uP x = 0
    · rw [if_pos c1]; exact Or.inl rfl
    · rw [if_neg c1]; exact Or.inr (Or.inl ⟨_, _, rfl, by omega, by omega, by omega, by omega, by omega⟩)
  · rw [if_neg c0]
    by_cases c1 : fld x 13 3 = 2
    · rw [if_pos c1]; exact Or.inr (Or.inr (Or.inl ⟨_, _, _, rfl, by omega, by omega, by omega, by omega, by omega, by omega⟩))
    · rw [if_neg c1]
      by_cases c2 : fld x 13 3 = 6
      · rw [if_pos c2]; exact Or.inr (Or.inr (Or.inr ⟨_, _, _, rfl, by omega, by omega, by omega, by omega, by omega, by omega⟩))
      · rw [if_neg c2]; exact Or.inl rfl

theorem exp_3 (x : Int) (hq : x % 4 = 3) : expI x = none5 := by
  have h0 : fld x 0 2 = 3 := by unfold fld; simp; exact hq
  unfold expI
  rw [h0]
  rfl

theorem fld_q (x : Int) : fld x 0 2 = x % 4 := by
  unfold fld
  simp

end Go.Proofs.Ytcdjabfhmhibjaa
