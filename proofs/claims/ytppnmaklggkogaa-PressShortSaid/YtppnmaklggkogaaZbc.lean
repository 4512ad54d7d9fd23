/- Parts of the proof, one behind the other. -/
import Derived.Deep.RegionHeld3
import Derived.RegionTactic
import Derived.Test.YtppnmaklggkogaaZab
import Derived.Test.YtppnmaklggkogaaZad
import Derived.Test.YtppnmaklggkogaaZag
import Derived.Test.YtppnmaklggkogaaZak
import Derived.Test.YtppnmaklggkogaaZao
import Derived.Test.YtppnmaklggkogaaZav
import Derived.Test.YtppnmaklggkogaaZba
import Derived.Test.YtppnmaklggkogaaZbb
/- Plain: what a parcel stands for may be. -/
namespace Go.Proofs.Ytppnmaklggkogaa
open Go.RowKit
set_option linter.unusedVariables false
set_option linter.unusedSimpArgs false

theorem fit12 (v : Int) (h : -2048 ≤ v) (h' : v ≤ 2047) : fitB v 12 = true := by
  unfold fitB sgn Int.bmod
  simp
  split <;> omega

theorem fit13 (v : Int) (h : -4096 ≤ v) (h' : v ≤ 4095) : fitB v 13 = true := by
  unfold fitB sgn Int.bmod
  simp
  split <;> omega

theorem fit21 (v : Int) (h : -1048576 ≤ v) (h' : v ≤ 1048575) : fitB v 21 = true := by
  unfold fitB sgn Int.bmod
  simp
  split <;> omega

theorem j_bd (x : Int) : -2048 ≤ jP x ∧ jP x ≤ 2047 ∧ jP x % 2 = 0 := by
  unfold jP
  generalize runsV x 0 rsJ = v
  have := sgn_range (v * 2 % 4294967296) 12
  have e : (2 : Int) ^ 12 = 4096 := by decide
  refine ⟨by omega, by omega, ?_⟩
  unfold sgn Int.bmod
  simp
  split <;> omega

theorem br_bd (x : Int) : -256 ≤ brP x ∧ brP x ≤ 255 ∧ brP x % 2 = 0 := by
  unfold brP
  generalize runsV x 0 rsB = v
  have := sgn_range (v * 2 % 4294967296) 9
  have e : (2 : Int) ^ 9 = 512 := by decide
  refine ⟨by omega, by omega, ?_⟩
  unfold sgn Int.bmod
  simp
  split <;> omega

theorem far_bd (x : Int) : -512 ≤ farP x ∧ farP x ≤ 511 := by
  unfold farP
  generalize runsV x 0 rsF = v
  have := sgn_range (v * 16 % 4294967296) 10
  have e : (2 : Int) ^ 10 = 1024 := by decide
  omega

theorem mayn (op rd rs1 imm : Int) (hf : formN op = 6 ∨ formN op = 4) (h1 : 0 ≤ rd) (h2 : rd ≤ 31) (h3 : 0 ≤ rs1) (h4 : rs1 ≤ 31) (h5 : -2048 ≤ imm) (h6 : imm ≤ 2047) : mayB op rd rs1 0 imm = true := by
  have h := fit12 imm h5 h6
  rcases hf with hf | hf <;> simp [mayB, hf, regB, needD, needS, needT, numB, h, h1, h2, h3, h4]

theorem maysh (op rd rs1 imm : Int) (hf : formN op = 7) (h1 : 0 ≤ rd) (h2 : rd ≤ 31) (h3 : 0 ≤ rs1) (h4 : rs1 ≤ 31) (h5 : 0 ≤ imm) (h6 : imm ≤ 31) : mayB op rd rs1 0 imm = true := by
  simp [mayB, hf, regB, needD, needS, needT, numB, h1, h2, h3, h4, h5, h6]

theorem mayst (op rs1 rs2 imm : Int) (hf : formN op = 5) (h1 : 0 ≤ rs2) (h2 : rs2 ≤ 31) (h3 : 0 ≤ rs1) (h4 : rs1 ≤ 31) (h5 : -2048 ≤ imm) (h6 : imm ≤ 2047) : mayB op 0 rs1 rs2 imm = true := by
  have h := fit12 imm h5 h6
  simp [mayB, hf, regB, needD, needS, needT, numB, h, h1, h2, h3, h4]

theorem mayre (op rd rs1 rs2 : Int) (hf : formN op = 8) (h1 : 0 ≤ rs2) (h2 : rs2 ≤ 31) (h3 : 0 ≤ rs1) (h4 : rs1 ≤ 31) (h5 : 0 ≤ rd) (h6 : rd ≤ 31) : mayB op rd rs1 rs2 0 = true := by
  simp [mayB, hf, regB, needD, needS, needT, numB, h1, h2, h3, h4, h5, h6]

theorem maybr (op rs1 rs2 imm : Int) (hf : formN op = 3) (h1 : 0 ≤ rs2) (h2 : rs2 ≤ 31) (h3 : 0 ≤ rs1) (h4 : rs1 ≤ 31) (h5 : -256 ≤ imm) (h6 : imm ≤ 255) (h7 : imm % 2 = 0) : mayB op 0 rs1 rs2 imm = true := by
  have h := fit13 imm (by omega) (by omega)
  simp [mayB, hf, regB, needD, needS, needT, numB, h, h1, h2, h3, h4, h7]

theorem mayju (op rd imm : Int) (hf : formN op = 2) (h1 : 0 ≤ rd) (h2 : rd ≤ 31) (h5 : -2048 ≤ imm) (h6 : imm ≤ 2047) (h7 : imm % 2 = 0) : mayB op rd 0 0 imm = true := by
  have h := fit21 imm (by omega) (by omega)
  simp [mayB, hf, regB, needD, needS, needT, numB, h, h1, h2, h7]

theorem mayup (op rd imm : Int) (hf : formN op = 1) (h1 : 0 ≤ rd) (h2 : rd ≤ 31) (h7 : imm % 4096 = 0) : mayB op rd 0 0 imm = true := by
  simp [mayB, hf, regB, needD, needS, needT, numB, h1, h2, h7]

/-- An instruction that may be, and whose number is one of 32 bits. -/
def okI (i : In5) : Prop := i = none5 ∨ (0 < i.op ∧ mayB i.op i.rd i.rs1 i.rs2 i.imm = true)

theorem ok_none : okI none5 := Or.inl rfl

theorem ok_of (op rd rs1 rs2 imm : Int) (h : 0 < op) (h' : mayB op rd rs1 rs2 imm = true) : okI ⟨op, rd, rs1, rs2, imm⟩ := Or.inr ⟨h, h'⟩

theorem ok_fst (x : Int) : okI (fstI x (fld x 13 3) (8 + fld x 7 3) (8 + fld x 2 3)) := by
  have g0 := fld_nonneg x 7 3
  have g1 : fld x 7 3 < 8 := fld_lt x 7 3
  have k0 := fld_nonneg x 2 3
  have k1 : fld x 2 3 < 8 := fld_lt x 2 3
  obtain ⟨u1, u2⟩ := u_bd x
  obtain ⟨n1, n2⟩ := near_bd x
  unfold fstI
  repeat' split
  · exact ok_none
  · exact ok_of _ _ _ _ _ (by decide) (mayn 19 _ _ _ (Or.inl (by decide)) (by omega) (by omega) (by omega) (by omega) (by omega) (by omega))
  · exact ok_of _ _ _ _ _ (by decide) (mayn 13 _ _ _ (Or.inr (by decide)) (by omega) (by omega) (by omega) (by omega) (by omega) (by omega))
  · exact ok_of _ _ _ _ _ (by decide) (mayst 18 _ _ _ (by decide) (by omega) (by omega) (by omega) (by omega) (by omega) (by omega))
  · exact ok_none

theorem ok_upp (x : Int) : okI (uppI x (fld x 7 5) (n6P x)) := by
  have r0 := fld_nonneg x 7 5
  have r1 : fld x 7 5 < 32 := fld_lt x 7 5
  obtain ⟨m0, m1⟩ := n6_bd x
  obtain ⟨u1, u2⟩ := far_bd x
  unfold uppI
  repeat' split
  · exact ok_none
  · exact ok_of _ _ _ _ _ (by decide) (mayn 19 _ _ _ (Or.inl (by decide)) (by omega) (by omega) (by omega) (by omega) (by omega) (by omega))
  · exact ok_of _ _ _ _ _ (by decide) (mayup 1 _ _ (by decide) (by omega) (by omega) (by simp only [wrap32]; omega))

theorem ok_rec (x : Int) : okI (recI (8 + fld x 7 3) (8 + fld x 2 3) (fld x 12 1) (n6P x) (fld x 2 5) (fld x 10 2) (fld x 5 2)) := by
  have g0 := fld_nonneg x 7 3
  have g1 : fld x 7 3 < 8 := fld_lt x 7 3
  have k0 := fld_nonneg x 2 3
  have k1 : fld x 2 3 < 8 := fld_lt x 2 3
  have p0 := fld_nonneg x 2 5
  have p1 : fld x 2 5 < 32 := fld_lt x 2 5
  obtain ⟨m0, m1⟩ := n6_bd x
  unfold recI
  split
  · exact ok_of _ _ _ _ _ (by decide) (mayn 24 _ _ _ (Or.inl (by decide)) (by omega) (by omega) (by omega) (by omega) (by omega) (by omega))
  split
  · exact ok_none
  split
  · exact ok_of _ _ _ _ _ (by decide) (maysh 26 _ _ _ (by decide) (by omega) (by omega) (by omega) (by omega) (by omega) (by omega))
  split
  · exact ok_of _ _ _ _ _ (by decide) (maysh 27 _ _ _ (by decide) (by omega) (by omega) (by omega) (by omega) (by omega) (by omega))
  split
  · exact ok_of _ _ _ _ _ (by decide) (mayre 29 _ _ _ (by decide) (by omega) (by omega) (by omega) (by omega) (by omega) (by omega))
  split
  · exact ok_of _ _ _ _ _ (by decide) (mayre 33 _ _ _ (by decide) (by omega) (by omega) (by omega) (by omega) (by omega) (by omega))
  split
  · exact ok_of _ _ _ _ _ (by decide) (mayre 36 _ _ _ (by decide) (by omega) (by omega) (by omega) (by omega) (by omega) (by omega))
  · exact ok_of _ _ _ _ _ (by decide) (mayre 37 _ _ _ (by decide) (by omega) (by omega) (by omega) (by omega) (by omega) (by omega))

theorem ok_snd (x : Int) : okI (sndI x (fld x 13 3) (fld x 7 5) (8 + fld x 7 3) (8 + fld x 2 3) (fld x 12 1) (n6P x) (jP x) (fld x 2 5) (fld x 10 2) (fld x 5 2)) := by
  have r0 := fld_nonneg x 7 5
  have r1 : fld x 7 5 < 32 := fld_lt x 7 5
  have g0 := fld_nonneg x 7 3
  have g1 : fld x 7 3 < 8 := fld_lt x 7 3
  obtain ⟨m0, m1⟩ := n6_bd x
  obtain ⟨j0, j1, j2⟩ := j_bd x
  obtain ⟨b0, b1, b2⟩ := br_bd x
  unfold sndI
  split
  · exact ok_of _ _ _ _ _ (by decide) (mayn 19 _ _ _ (Or.inl (by decide)) (by omega) (by omega) (by omega) (by omega) (by omega) (by omega))
  split
  · exact ok_of _ _ _ _ _ (by decide) (mayju 3 _ _ (by decide) (by omega) (by omega) (by omega) (by omega) (by omega))
  split
  · exact ok_of _ _ _ _ _ (by decide) (mayn 19 _ _ _ (Or.inl (by decide)) (by omega) (by omega) (by omega) (by omega) (by omega) (by omega))
  split
  · exact ok_upp x
  split
  · exact ok_rec x
  split
  · exact ok_of _ _ _ _ _ (by decide) (mayju 3 _ _ (by decide) (by omega) (by omega) (by omega) (by omega) (by omega))
  split
  · exact ok_of _ _ _ _ _ (by decide) (maybr 5 _ _ _ (by decide) (by omega) (by omega) (by omega) (by omega) (by omega) (by omega) (by omega))
  · exact ok_of _ _ _ _ _ (by decide) (maybr 6 _ _ _ (by decide) (by omega) (by omega) (by omega) (by omega) (by omega) (by omega) (by omega))

theorem ok_thd (x : Int) : okI (thdI x (fld x 13 3) (fld x 7 5) (fld x 2 5) (fld x 12 1) (fld x 2 5)) := by
  have r0 := fld_nonneg x 7 5
  have r1 : fld x 7 5 < 32 := fld_lt x 7 5
  have p0 := fld_nonneg x 2 5
  have p1 : fld x 2 5 < 32 := fld_lt x 2 5
  have b0 := fld_nonneg x 12 1
  have b1 : fld x 12 1 < 2 := fld_lt x 12 1
  obtain ⟨m0, m1⟩ := ls_bd x
  obtain ⟨s0, s1⟩ := ss_bd x
  unfold thdI movI
  repeat' split
  · exact ok_of _ _ _ _ _ (by decide) (maysh 25 _ _ _ (by decide) (by omega) (by omega) (by omega) (by omega) (by omega) (by omega))
  · exact ok_none
  · exact ok_none
  · exact ok_of _ _ _ _ _ (by decide) (mayn 13 _ _ _ (Or.inr (by decide)) (by omega) (by omega) (by omega) (by omega) (by omega) (by omega))
  · exact ok_of _ _ _ _ _ (by decide) (by decide)
  · exact ok_none
  · exact ok_of _ _ _ _ _ (by decide) (mayn 4 _ _ _ (Or.inr (by decide)) (by omega) (by omega) (by omega) (by omega) (by omega) (by omega))
  · exact ok_of _ _ _ _ _ (by decide) (mayre 28 _ _ _ (by decide) (by omega) (by omega) (by omega) (by omega) (by omega) (by omega))
  · exact ok_of _ _ _ _ _ (by decide) (mayre 28 _ _ _ (by decide) (by omega) (by omega) (by omega) (by omega) (by omega) (by omega))
  · exact ok_of _ _ _ _ _ (by decide) (mayst 18 _ _ _ (by decide) (by omega) (by omega) (by omega) (by omega) (by omega) (by omega))
  · exact ok_none

theorem ok_exp (x : Int) : okI (expI x) := by
  unfold expI
  split
  · exact ok_fst x
  split
  · exact ok_snd x
  split
  · exact ok_thd x
  · exact ok_none

theorem exp_eq (x : Int) : expJ x = expI x := by
  unfold expJ
  rcases ok_exp x with h | ⟨h, _⟩
  · rw [h]; rfl
  · rw [if_neg (by omega)]

theorem exp_pos (x : Int) : (!((expI x).op == 0)) = decide (0 < (expI x).op) := by
  rcases ok_exp x with h | ⟨h, _⟩
  · rw [h]; rfl
  · have h' : ((expI x).op == 0) = false := beq_eq_false_iff_ne.2 (by omega)
    rw [h']
    simp [h]

theorem exp_may (x : Int) (h : ((expI x).op == 0) = false) : mayB (expI x).op (expI x).rd (expI x).rs1 (expI x).rs2 (expI x).imm = true := by
  rcases ok_exp x with h' | ⟨_, h'⟩
  · rw [h'] at h; exact absurd h (by decide)
  · exact h'

def bdI (i : In5) : Prop := -2147483648 ≤ i.imm ∧ i.imm ≤ 2147483647

theorem bd_ite {c : Prop} [Decidable c] {a b : In5} (h1 : bdI a) (h2 : bdI b) : bdI (if c then a else b) := by split <;> assumption

theorem bd_none : bdI none5 := ⟨by decide, by decide⟩

theorem bd_of (op rd rs1 rs2 imm : Int) (h : -2147483648 ≤ imm) (h' : imm ≤ 2147483647) : bdI ⟨op, rd, rs1, rs2, imm⟩ := ⟨h, h'⟩

theorem exp_imm (x : Int) : -2147483648 ≤ (expI x).imm ∧ (expI x).imm ≤ 2147483647 := by
  obtain ⟨u1, u2⟩ := u_bd x
  obtain ⟨n1, n2⟩ := near_bd x
  obtain ⟨m0, m1⟩ := n6_bd x
  obtain ⟨j0, j1, j2⟩ := j_bd x
  obtain ⟨b0, b1, b2⟩ := br_bd x
  obtain ⟨l0, l1⟩ := ls_bd x
  obtain ⟨s0, s1⟩ := ss_bd x
  obtain ⟨w1, w2⟩ := far_bd x
  have p0 := fld_nonneg x 2 5
  have p1 : fld x 2 5 < 32 := fld_lt x 2 5
  show bdI (expI x)
  unfold expI fstI sndI thdI uppI recI movI
  repeat' (with_reducible first | apply bd_ite | exact bd_none)
  all_goals (apply bd_of <;> (try simp only [wrap32]) <;> omega)

theorem near_128 (x : Int) : 0 ≤ nearP x ∧ nearP x < 128 := by
  have a1 := fld_nonneg x 5 1
  have b1 : fld x 5 1 < 2 := fld_lt x 5 1
  have a2 := fld_nonneg x 10 3
  have b2 : fld x 10 3 < 8 := fld_lt x 10 3
  have a3 := fld_nonneg x 6 1
  have b3 : fld x 6 1 < 2 := fld_lt x 6 1
  show 0 ≤ (((0 * 2 ^ 1 % 4294967296 + fld x 5 1) * 2 ^ 3 % 4294967296 + fld x 10 3) * 2 ^ 1 % 4294967296 + fld x 6 1) * 4 % 4294967296 ∧ (((0 * 2 ^ 1 % 4294967296 + fld x 5 1) * 2 ^ 3 % 4294967296 + fld x 10 3) * 2 ^ 1 % 4294967296 + fld x 6 1) * 4 % 4294967296 < 128
  omega

theorem u_1024 (x : Int) : 0 ≤ uP x ∧ uP x < 1024 ∧ uP x % 4 = 0 := by
  have a1 := fld_nonneg x 7 4
  have b1 : fld x 7 4 < 16 := fld_lt x 7 4
  have a2 := fld_nonneg x 11 2
  have b2 : fld x 11 2 < 4 := fld_lt x 11 2
  have a3 := fld_nonneg x 5 1
  have b3 : fld x 5 1 < 2 := fld_lt x 5 1
  have a4 := fld_nonneg x 6 1
  have b4 : fld x 6 1 < 2 := fld_lt x 6 1
  have e : uP x = ((((0 * 2 ^ 4 % 4294967296 + fld x 7 4) * 2 ^ 2 % 4294967296 + fld x 11 2) * 2 ^ 1 % 4294967296 + fld x 5 1) * 2 ^ 1 % 4294967296 + fld x 6 1) * 4 % 4294967296 := rfl
  rw [e]
  omega

/-- What a parcel of the quarter 0 stands for. -/
theorem exp_few (x : Int) (hq : x % 4 = 0) : expI x = none5 ∨ (∃ r u, expI x = ⟨19, r, 2, 0, u⟩ ∧ 8 ≤ r ∧ r < 16 ∧ 0 < u ∧ u < 1024 ∧ u % 4 = 0) ∨
    (∃ r s v, expI x = ⟨13, r, s, 0, v⟩ ∧ 8 ≤ r ∧ r < 16 ∧ 8 ≤ s ∧ s < 16 ∧ 0 ≤ v ∧ v < 128) ∨ (∃ r s v, expI x = ⟨18, 0, r, s, v⟩ ∧ 8 ≤ r ∧ r < 16 ∧ 8 ≤ s ∧ s < 16 ∧ 0 ≤ v ∧ v < 128) := by
  have g0 := fld_nonneg x 7 3
  have g1 : fld x 7 3 < 8 := fld_lt x 7 3
  have k0 := fld_nonneg x 2 3
  have k1 : fld x 2 3 < 8 := fld_lt x 2 3
  have h0 : fld x 0 2 = 0 := by unfold fld; simp; exact hq
  obtain ⟨u1, u2, u3⟩ := u_1024 x
  obtain ⟨n1, n2⟩ := near_128 x
  unfold expI
  rw [if_pos h0]
  unfold fstI
  by_cases c0 : fld x 13 3 = 0
  · rw [if_pos c0]
    by_cases c1 : uP x = 0
    · rw [if_pos c1]; exact Or.inl rfl
    · rw [if_neg c1]; exact Or.inr (Or.inl ⟨_, _, rfl, by omega, by omega, by omega, by omega, by omega⟩)
  · rw [if_neg c0]
    by_cases c1 : fld x 13 3 = 2
    · rw [if_pos c1]; exact Or.inr (Or.inr (Or.inl ⟨_, _, _, rfl, by omega, by omega, by omega, by omega, by omega, by omega⟩))
    · rw [if_neg c1]
      by_cases c2 : fld x 13 3 = 6
      · rw [if_pos c2]; exact Or.inr (Or.inr (Or.inr ⟨_, _, _, rfl, by omega, by omega, by omega, by omega, by omega, by omega⟩))
      · rw [if_neg c2]; exact Or.inl rfl

theorem exp_3 (x : Int) (hq : x % 4 = 3) : expI x = none5 := by
  have h0 : fld x 0 2 = 3 := by unfold fld; simp; exact hq
  unfold expI
  rw [h0]
  rfl

theorem fld_q (x : Int) : fld x 0 2 = x % 4 := by
  unfold fld
  simp

end Go.Proofs.Ytppnmaklggkogaa

/- Contracts of package typecaseref05: Expand. -/
namespace Go.Proofs.Ytppnmaklggkogaa
open Go.RowKit
set_option linter.unusedVariables false
set_option linter.unusedSimpArgs false

set_option maxHeartbeats 1000000 in
theorem rexp_q0 (x : Int) (w : World) (hx : 0 ≤ x) (hx' : x < 65536) (hq : fld x 0 2 = 0) :
    Calls Try.prog 12 #[.int .u16 x] w fun e w' => e = .returned (.tuple #[insV (expI x), .bool (decide (0 < (expI x).op))]) ∧ Nx w w' := by
  have hm : x % 65536 = x := by omega
  have h4 : x % 4 = 0 := by rw [← fld_q]; exact hq
  have hm2 : x % 4294967296 = x := by omega
  have eI : expI x = fstI x (fld x 13 3) (8 + fld x 7 3) (8 + fld x 2 3) := by unfold expI; simp [hq]
  have hc := fun w => quarter0_any x w hx hx'
  rw [← eI] at hc
  clear eI hq
  generalize expI x = I at hc
  go_enter Try.func12, Try.ntmps12
  go_wp2_with fail
  refine (hc _).mono ?_
  rintro e w2 ⟨rfl, hn2⟩
  obtain ⟨c0, c1, c2, c3, c4, z0, z1, z2, z3, z4, hz⟩ := five_res hn2
  obtain ⟨d0, d1, d2, d3, d4, y0, y1, y2, y3, y4, hy⟩ := five_cells (((Nx.refl _).alloc _).trans hn2)
  have HN := Lib.hid ((((Nx.refl w).alloc _).alloc _).trans hn2)
  clear hn2
  unfold insV
  go_wp2
  go_region
  all_goals go_wp2
  all_goals
    refine bodyPost_ret (v := .tuple #[.agg #[.int .i64 I.op, .int .i64 I.rd, .int .i64 I.rs1, .int .i64 I.rs2, .int .i32 I.imm], .bool (decide (0 < I.op))]) (by simp [results, Try.results12, go_sem, c0, c1, c2, c3, c4, d0, d1, d2, d3, d4, hz, hy]) rfl ⟨rfl, ?_⟩
    repeat (with_reducible first | exact HN.out | refine Nx.drew ?_ | refine Nx.alloc ?_ _ | refine Nx.setCell ?_ (Nat.le_refl _) _ | refine Nx.setCell ?_ (Nat.le_succ _) _)

set_option maxHeartbeats 1000000 in
theorem rexp_q1 (x : Int) (w : World) (hx : 0 ≤ x) (hx' : x < 65536) (hq : fld x 0 2 = 1) :
    Calls Try.prog 12 #[.int .u16 x] w fun e w' => e = .returned (.tuple #[insV (expI x), .bool (decide (0 < (expI x).op))]) ∧ Nx w w' := by
  have hm : x % 65536 = x := by omega
  have h4 : x % 4 = 1 := by rw [← fld_q]; exact hq
  have hm2 : x % 4294967296 = x := by omega
  have eI : expI x = sndI x (fld x 13 3) (fld x 7 5) (8 + fld x 7 3) (8 + fld x 2 3) (fld x 12 1) (n6P x) (jP x) (fld x 2 5) (fld x 10 2) (fld x 5 2) := by unfold expI; simp [hq]
  have hc := fun w => quarter1_any x w hx hx'
  rw [← eI] at hc
  clear eI hq
  generalize expI x = I at hc
  go_enter Try.func12, Try.ntmps12
  go_wp2_with fail
  refine (hc _).mono ?_
  rintro e w2 ⟨rfl, hn2⟩
  obtain ⟨c0, c1, c2, c3, c4, z0, z1, z2, z3, z4, hz⟩ := five_res hn2
  obtain ⟨d0, d1, d2, d3, d4, y0, y1, y2, y3, y4, hy⟩ := five_cells (((Nx.refl _).alloc _).trans hn2)
  have HN := Lib.hid ((((Nx.refl w).alloc _).alloc _).trans hn2)
  clear hn2
  unfold insV
  go_wp2
  go_region
  all_goals go_wp2
  all_goals
    refine bodyPost_ret (v := .tuple #[.agg #[.int .i64 I.op, .int .i64 I.rd, .int .i64 I.rs1, .int .i64 I.rs2, .int .i32 I.imm], .bool (decide (0 < I.op))]) (by simp [results, Try.results12, go_sem, c0, c1, c2, c3, c4, d0, d1, d2, d3, d4, hz, hy]) rfl ⟨rfl, ?_⟩
    repeat (with_reducible first | exact HN.out | refine Nx.drew ?_ | refine Nx.alloc ?_ _ | refine Nx.setCell ?_ (Nat.le_refl _) _ | refine Nx.setCell ?_ (Nat.le_succ _) _)

set_option maxHeartbeats 1000000 in
theorem rexp_q2 (x : Int) (w : World) (hx : 0 ≤ x) (hx' : x < 65536) (hq : fld x 0 2 = 2) :
    Calls Try.prog 12 #[.int .u16 x] w fun e w' => e = .returned (.tuple #[insV (expI x), .bool (decide (0 < (expI x).op))]) ∧ Nx w w' := by
  have hm : x % 65536 = x := by omega
  have h4 : x % 4 = 2 := by rw [← fld_q]; exact hq
  have hm2 : x % 4294967296 = x := by omega
  have eI : expI x = thdI x (fld x 13 3) (fld x 7 5) (fld x 2 5) (fld x 12 1) (fld x 2 5) := by unfold expI; simp [hq]
  have hc := fun w => quarter2_any x w hx hx'
  rw [← eI] at hc
  clear eI hq
  generalize expI x = I at hc
  go_enter Try.func12, Try.ntmps12
  go_wp2_with fail
  refine (hc _).mono ?_
  rintro e w2 ⟨rfl, hn2⟩
  obtain ⟨c0, c1, c2, c3, c4, z0, z1, z2, z3, z4, hz⟩ := five_res hn2
  obtain ⟨d0, d1, d2, d3, d4, y0, y1, y2, y3, y4, hy⟩ := five_cells (((Nx.refl _).alloc _).trans hn2)
  have HN := Lib.hid ((((Nx.refl w).alloc _).alloc _).trans hn2)
  clear hn2
  unfold insV
  go_wp2
  go_region
  all_goals go_wp2
  all_goals
    refine bodyPost_ret (v := .tuple #[.agg #[.int .i64 I.op, .int .i64 I.rd, .int .i64 I.rs1, .int .i64 I.rs2, .int .i32 I.imm], .bool (decide (0 < I.op))]) (by simp [results, Try.results12, go_sem, c0, c1, c2, c3, c4, d0, d1, d2, d3, d4, hz, hy]) rfl ⟨rfl, ?_⟩
    repeat (with_reducible first | exact HN.out | refine Nx.drew ?_ | refine Nx.alloc ?_ _ | refine Nx.setCell ?_ (Nat.le_refl _) _ | refine Nx.setCell ?_ (Nat.le_succ _) _)

set_option maxHeartbeats 1000000 in
theorem rexp_q3 (x : Int) (w : World) (hx : 0 ≤ x) (hx' : x < 65536) (hq : fld x 0 2 = 3) :
    Calls Try.prog 12 #[.int .u16 x] w fun e w' => e = .returned (.tuple #[insV (expI x), .bool (decide (0 < (expI x).op))]) ∧ Nx w w' := by
  have hm : x % 65536 = x := by omega
  have h4 : x % 4 = 3 := by rw [← fld_q]; exact hq
  have eI : expI x = none5 := by unfold expI; simp [hq]
  rw [eI]
  go_enter Try.func12, Try.ntmps12
  go_wp2
  go_region
  all_goals go_wp2
  all_goals
    refine bodyPost_ret (v := .tuple #[.agg #[.int .i64 0, .int .i64 0, .int .i64 0, .int .i64 0, .int .i32 0], .bool false]) (by simp [results, Try.results12, go_sem]) rfl ⟨rfl, ?_⟩
    repeat (with_reducible first | exact Nx.refl _ | refine Nx.drew ?_ | refine Nx.alloc ?_ _ | refine Nx.setCell ?_ (Nat.le_refl _) _ | refine Nx.setCell ?_ (Nat.le_succ _) _)

theorem rexp_any (x : Int) (w : World) (hx : 0 ≤ x) (hx' : x < 65536) :
    Calls Try.prog 12 #[.int .u16 x] w fun e w' => e = .returned (.tuple #[insV (expI x), .bool (decide (0 < (expI x).op))]) ∧ Nx w w' := by
  have g0 := fld_nonneg x 0 2
  have g1 : fld x 0 2 < 4 := fld_lt x 0 2
  have hq : fld x 0 2 = 0 ∨ fld x 0 2 = 1 ∨ fld x 0 2 = 2 ∨ fld x 0 2 = 3 := by omega
  rcases hq with hq | hq | hq | hq
  · exact rexp_q0 x w hx hx' hq
  · exact rexp_q1 x w hx hx' hq
  · exact rexp_q2 x w hx hx' hq
  · exact rexp_q3 x w hx hx' hq

end Go.Proofs.Ytppnmaklggkogaa

/- Contracts of package typecaseref09: Short, Get. -/
namespace Go.Proofs.Ytppnmaklggkogaa
open Go.RowKit
set_option linter.unusedVariables false
set_option linter.unusedSimpArgs false

/-- The first of some shorts that an instruction fits. -/
def shortL (op rd rs1 rs2 imm : Int) : List (List UInt8) → List UInt8
  | [] => []
  | s :: l => if rFitB s op rd rs1 rs2 imm = true then s else shortL op rd rs1 rs2 imm l

set_option maxHeartbeats 2000000 in
theorem rShort_any (op rd rs1 rs2 imm : Int) (w : World) (hv : -2147483648 ≤ imm) (hv' : imm ≤ 2147483647) :
    Calls Try.prog 19 #[.agg #[.int .i64 op, .int .i64 rd, .int .i64 rs1, .int .i64 rs2, .int .i32 imm]] w fun e w' => e = .returned (.string (B (shortL op rd rs1 rs2 imm shB))) ∧ Nx w w' := by
  obtain ⟨V, hV⟩ : ∃ V, V = shortL op rd rs1 rs2 imm shB := ⟨_, rfl⟩
  rw [← hV]
  have HV := Lib.hid hV
  clear hV
  go_enter Try.func19, Try.ntmps19
  go_wp2_with fail
  refine (rNames_some _).mono ?_
  rintro e w1 ⟨g, rfl, hS, hn1⟩
  have HS := Lib.hid hS
  obtain ⟨c0, c1, c2, c3, c4, hz⟩ := five_in hn1
  have HC := Lib.hid (And.intro c0 (And.intro c1 (And.intro c2 (And.intro c3 c4))))
  have HN1 := Lib.hid (((Nx.refl w).alloc _).trans hn1)
  clear hS hn1 c0 c1 c2 c3 c4
  go_wp2
  go_loopg [4] 27 (fun gg i wy => ∃ k : Nat, k + gg = 27 ∧ i = .int .i64 k ∧ Nx w1 wy ∧ Hid (shortL op rd rs1 rs2 imm (shB.drop k) = V))
  case atStart => exact ⟨0, by omega, rfl, Nx.refl _, Lib.hid HV.out.symm⟩
  case round =>
    obtain ⟨k, hk, rfl, hnx, HL⟩ := hrel
    have HNX := Lib.hid hnx
    clear hnx
    cases gk with
    | zero =>
      obtain rfl : k = 27 := by omega
      have hV : [] = V := HL.out
      subst hV
      go_wp2
      go_ret
      exact ⟨rfl, HN1.out.trans HNX.out⟩
    | succ gg =>
      have hk27 : k < 27 := by omega
      have hkI : (k : Int) < 27 := by omega
      have hkJ : ¬ (k : Int) < 0 := by omega
      have hk0 : 0 ≤ (k : Int) := by omega
      obtain ⟨s, hs⟩ : ∃ s, shB[k]? = some s := ⟨_, List.getElem?_eq_getElem (show k < shB.length from hk27)⟩
      have hc := HNX.out.cell (HS.out k s hs)
      have c0 := HNX.out.cell HC.out.1
      have c1 := HNX.out.cell HC.out.2.1
      have c2 := HNX.out.cell HC.out.2.2.1
      have c3 := HNX.out.cell HC.out.2.2.2.1
      have c4 := HNX.out.cell HC.out.2.2.2.2
      have zg : g < wr.heap.size := block_lt hc
      have zw : w.heap.size < wr.heap.size := block_lt c0
      have hd : shB.drop k = s :: shB.drop (k + 1) := by
        obtain ⟨hk', e⟩ := List.getElem?_eq_some_iff.1 hs
        rw [List.drop_eq_getElem_cons hk', e]
      rw [hd] at HL
      have HL2 := Lib.hid (show (if rFitB s op rd rs1 rs2 imm = true then s else shortL op rd rs1 rs2 imm (shB.drop (k + 1))) = V from HL.out)
      clear HL hd hs
      have hB : (B s).toList = s := by rw [ByteArray.toList_eq]
      have HF := Lib.hid (fun w => rFits_any (B s) op rd rs1 rs2 imm w hv hv')
      rw [hB] at HF
      clear hB
      cases hf : rFitB s op rd rs1 rs2 imm
      · rw [hf] at HF HL2
        rw [if_neg (by simp)] at HL2
        go_wp2
        (refine wp_region_nx 5 (by kernel_rfl) (by kernel_rfl) ?_; simp only [List.take_succ_cons, List.take_zero, List.drop_succ_cons, List.drop_zero]; (repeat (refine wpQuiet_step (fun K hK => ?_); go_simp; first | (refine hK _ ?_; clear hK K) | (apply Exists.intro; refine ⟨fun w' hw' => ?_, hK _ ?_⟩; (first | (with_reducible rfl) | (go_at_call 11; with_reducible exact (HF.out _).mono fun _ _ h => ⟨h.1, hw'.trans h.2⟩) | (obtain ⟨hc, hf⟩ := nx_cells hw'; go_simp; with_reducible rfl) | (obtain ⟨hc, hf⟩ := nx_cells hw'; go_simp; rfl)); clear hK K))); refine wpQuiet_nil ?_; intro w2 hn2)
        have HN2 := Lib.hid hn2
        clear hn2
        go_wp2_with (go_at_call 11; refine (HF.out _).mono ?_; rintro e w3 ⟨rfl, hn3⟩; have HN3 := Lib.hid hn3; clear hn3)
        go_roundg gg
        case measure => omega
        case rel => exact ⟨k + 1, by omega, by first | rfl | simp, HNX.out.trans (HN2.out.trans HN3.out), HL2⟩
      · rw [hf] at HF HL2
        rw [if_pos rfl] at HL2
        have hsv := HL2.out
        subst hsv
        clear HL2
        go_wp2
        (refine wp_region_nx 5 (by kernel_rfl) (by kernel_rfl) ?_; simp only [List.take_succ_cons, List.take_zero, List.drop_succ_cons, List.drop_zero]; (repeat (refine wpQuiet_step (fun K hK => ?_); go_simp; first | (refine hK _ ?_; clear hK K) | (apply Exists.intro; refine ⟨fun w' hw' => ?_, hK _ ?_⟩; (first | (with_reducible rfl) | (go_at_call 11; with_reducible exact (HF.out _).mono fun _ _ h => ⟨h.1, hw'.trans h.2⟩) | (obtain ⟨hc, hf⟩ := nx_cells hw'; go_simp; with_reducible rfl) | (obtain ⟨hc, hf⟩ := nx_cells hw'; go_simp; rfl)); clear hK K))); refine wpQuiet_nil ?_; intro w2 hn2)
        have HN2 := Lib.hid hn2
        clear hn2
        go_wp2_with fail
        refine (HF.out _).mono ?_
        rintro e w3 ⟨rfl, hn3⟩
        have hcc := hn3.cell (HN2.out.cell hc)
        have HN3 := Lib.hid hn3
        clear hn3
        go_wp2
        go_ret
        exact ⟨rfl, HN1.out.trans (HNX.out.trans (HN2.out.trans HN3.out))⟩

/-- What the document reads in a parcel. -/
def rGetB (h : Int) : Bool := decide (0 < (expI h).op) && rFitB (dgS h) (expI h).op (expI h).rd (expI h).rs1 (expI h).rs2 (expI h).imm

def rGetV (h : Int) : Value := if rGetB h = true then .tuple #[.string (B (dgS h)), insV (expI h), .bool true] else .tuple #[.string (B []), insV none5, .bool false]

set_option maxHeartbeats 4000000 in
theorem rGet_none (h : Int) (w : World) (h0 : 0 ≤ h) (h1 : h < 65536) (hok : decide (0 < (expI h).op) = false) :
    Calls Try.prog 14 #[.int .u16 h] w fun e w' => e = .returned (.tuple #[.string (B []), insV none5, .bool false]) ∧ Nx w w' := by
  have HBD := Lib.hid (exp_imm h)
  have HD := Lib.hid (fun w => diag_any h w h0 h1)
  have HE := Lib.hid (fun w => rexp_any h w h0 h1)
  have hB : (B (dgS h)).toList = dgS h := by rw [ByteArray.toList_eq]
  have HF := Lib.hid (fun w => rFits_any (B (dgS h)) (expI h).op (expI h).rd (expI h).rs1 (expI h).rs2 (expI h).imm w HBD.out.1 HBD.out.2)
  rw [hB] at HF
  clear HF
  clear hB
  rw [hok] at HE
  generalize dgS h = D at *
  generalize expI h = I at *
  unfold insV at *
  go_enter Try.func14, Try.ntmps14
  go_wp2_with fail
  refine (HE.out _).mono ?_
  rintro e w1 ⟨rfl, hn1⟩
  have HO := Lib.hid (Has.nx (Has.new w _) hn1)
  have HN1 := Lib.hid (((Nx.refl w).alloc _).trans hn1)
  clear hn1
  go_wp2_with fail
  refine (HD.out _).mono ?_
  rintro e w2 ⟨rfl, hn2⟩
  have ho := (HO.out.alloc _).nx hn2
  have x0 := ho.cell 0 _ rfl
  have x1 := ho.cell 1 _ rfl
  have x2 := ho.cell 2 _ rfl
  have x3 := ho.cell 3 _ rfl
  have x4 := ho.cell 4 _ rfl
  have y0 := ho.free 0
  have y1 := ho.free 1
  have y2 := ho.free 2
  have y3 := ho.free 3
  have y4 := ho.free 4
  have HN := Lib.hid (HN1.out.trans (((Nx.refl w1).alloc _).trans hn2))
  clear ho hn2
  go_wp2
  refine bodyPost_ret (v := .tuple #[.string (B []), .agg #[.int .i64 0, .int .i64 0, .int .i64 0, .int .i64 0, .int .i32 0], .bool false]) (by simp [results, Try.results14, go_sem, x0, x1, x2, x3, x4]) rfl ⟨rfl, ?_⟩
  repeat (with_reducible first | exact HN.out | refine Nx.drew ?_ | refine Nx.setCell ?_ (Nat.le_refl _) _)

set_option maxHeartbeats 4000000 in
theorem rGet_miss (h : Int) (w : World) (h0 : 0 ≤ h) (h1 : h < 65536) (hok : decide (0 < (expI h).op) = true) (hf : rFitB (dgS h) (expI h).op (expI h).rd (expI h).rs1 (expI h).rs2 (expI h).imm = false) :
    Calls Try.prog 14 #[.int .u16 h] w fun e w' => e = .returned (.tuple #[.string (B []), insV none5, .bool false]) ∧ Nx w w' := by
  have HBD := Lib.hid (exp_imm h)
  have HD := Lib.hid (fun w => diag_any h w h0 h1)
  have HE := Lib.hid (fun w => rexp_any h w h0 h1)
  have hB : (B (dgS h)).toList = dgS h := by rw [ByteArray.toList_eq]
  have HF := Lib.hid (fun w => rFits_any (B (dgS h)) (expI h).op (expI h).rd (expI h).rs1 (expI h).rs2 (expI h).imm w HBD.out.1 HBD.out.2)
  rw [hB] at HF
  rw [hf] at HF
  clear hf
  clear hB
  rw [hok] at HE
  generalize dgS h = D at *
  generalize expI h = I at *
  unfold insV at *
  go_enter Try.func14, Try.ntmps14
  go_wp2_with fail
  refine (HE.out _).mono ?_
  rintro e w1 ⟨rfl, hn1⟩
  have HO := Lib.hid (Has.nx (Has.new w _) hn1)
  have HN1 := Lib.hid (((Nx.refl w).alloc _).trans hn1)
  clear hn1
  go_wp2_with fail
  refine (HD.out _).mono ?_
  rintro e w2 ⟨rfl, hn2⟩
  have hd2 := (Has.new w1 _).nx hn2
  have t0 := hd2.cell 0 _ rfl
  have t1 := hd2.cell 1 _ rfl
  have t2 := hd2.cell 2 _ rfl
  have t3 := hd2.cell 3 _ rfl
  have t4 := hd2.cell 4 _ rfl
  have HD2 := Lib.hid hd2
  clear hd2
  go_wp2_with fail
  refine (HF.out _).mono ?_
  rintro e w3 ⟨rfl, hn3⟩
  have ho := (HO.out.alloc _).nx (hn2.trans hn3)
  have x0 := ho.cell 0 _ rfl
  have x1 := ho.cell 1 _ rfl
  have x2 := ho.cell 2 _ rfl
  have x3 := ho.cell 3 _ rfl
  have x4 := ho.cell 4 _ rfl
  have y0 := ho.free 0
  have y1 := ho.free 1
  have y2 := ho.free 2
  have y3 := ho.free 3
  have y4 := ho.free 4
  have HN := Lib.hid (HN1.out.trans (((Nx.refl w1).alloc _).trans (hn2.trans hn3)))
  clear ho hn2 hn3 HD2 t0 t1 t2 t3 t4
  go_wp2
  refine bodyPost_ret (v := .tuple #[.string (B []), .agg #[.int .i64 0, .int .i64 0, .int .i64 0, .int .i64 0, .int .i32 0], .bool false]) (by simp [results, Try.results14, go_sem, x0, x1, x2, x3, x4]) rfl ⟨rfl, ?_⟩
  repeat (with_reducible first | exact HN.out | refine Nx.drew ?_ | refine Nx.setCell ?_ (Nat.le_refl _) _)

set_option maxHeartbeats 4000000 in
theorem rGet_hit (h : Int) (w : World) (h0 : 0 ≤ h) (h1 : h < 65536) (hok : decide (0 < (expI h).op) = true) (hf : rFitB (dgS h) (expI h).op (expI h).rd (expI h).rs1 (expI h).rs2 (expI h).imm = true) :
    Calls Try.prog 14 #[.int .u16 h] w fun e w' => e = .returned (.tuple #[.string (B (dgS h)), insV (expI h), .bool true]) ∧ Nx w w' := by
  have HBD := Lib.hid (exp_imm h)
  have HD := Lib.hid (fun w => diag_any h w h0 h1)
  have HE := Lib.hid (fun w => rexp_any h w h0 h1)
  have hB : (B (dgS h)).toList = dgS h := by rw [ByteArray.toList_eq]
  have HF := Lib.hid (fun w => rFits_any (B (dgS h)) (expI h).op (expI h).rd (expI h).rs1 (expI h).rs2 (expI h).imm w HBD.out.1 HBD.out.2)
  rw [hB] at HF
  rw [hf] at HF
  clear hf
  clear hB
  rw [hok] at HE
  generalize dgS h = D at *
  generalize expI h = I at *
  unfold insV at *
  go_enter Try.func14, Try.ntmps14
  go_wp2_with fail
  refine (HE.out _).mono ?_
  rintro e w1 ⟨rfl, hn1⟩
  have HO := Lib.hid (Has.nx (Has.new w _) hn1)
  have HN1 := Lib.hid (((Nx.refl w).alloc _).trans hn1)
  clear hn1
  go_wp2_with fail
  refine (HD.out _).mono ?_
  rintro e w2 ⟨rfl, hn2⟩
  have hd2 := (Has.new w1 _).nx hn2
  have t0 := hd2.cell 0 _ rfl
  have t1 := hd2.cell 1 _ rfl
  have t2 := hd2.cell 2 _ rfl
  have t3 := hd2.cell 3 _ rfl
  have t4 := hd2.cell 4 _ rfl
  have HD2 := Lib.hid hd2
  clear hd2
  go_wp2_with fail
  refine (HF.out _).mono ?_
  rintro e w3 ⟨rfl, hn3⟩
  have ho := (HO.out.alloc _).nx (hn2.trans hn3)
  have x0 := ho.cell 0 _ rfl
  have x1 := ho.cell 1 _ rfl
  have x2 := ho.cell 2 _ rfl
  have x3 := ho.cell 3 _ rfl
  have x4 := ho.cell 4 _ rfl
  have y0 := ho.free 0
  have y1 := ho.free 1
  have y2 := ho.free 2
  have y3 := ho.free 3
  have y4 := ho.free 4
  have HN := Lib.hid (HN1.out.trans (((Nx.refl w1).alloc _).trans (hn2.trans hn3)))
  clear ho hn2
  have hd3 := HD2.out.nx hn3
  clear t0 t1 t2 t3 t4 HD2 hn3
  have t0 := hd3.cell 0 _ rfl
  have t1 := hd3.cell 1 _ rfl
  have t2 := hd3.cell 2 _ rfl
  have t3 := hd3.cell 3 _ rfl
  have t4 := hd3.cell 4 _ rfl
  clear hd3
  go_wp2
  go_region
  all_goals go_wp2
  all_goals
    refine bodyPost_ret (v := .tuple #[.string (B D), .agg #[.int .i64 I.op, .int .i64 I.rd, .int .i64 I.rs1, .int .i64 I.rs2, .int .i32 I.imm], .bool true]) (by simp [results, Try.results14, go_sem, x0, x1, x2, x3, x4]) rfl ⟨rfl, ?_⟩
    repeat (with_reducible first | exact HN.out | refine Nx.drew ?_ | refine Nx.setCell ?_ (Nat.le_refl _) _)

theorem rGet_any (h : Int) (w : World) (h0 : 0 ≤ h) (h1 : h < 65536) :
    Calls Try.prog 14 #[.int .u16 h] w fun e w' => e = .returned (rGetV h) ∧ Nx w w' := by
  unfold rGetV
  cases hok : decide (0 < (expI h).op)
  · have e : rGetB h = false := by unfold rGetB; rw [hok]; rfl
    rw [e, if_neg (by simp)]
    exact rGet_none h w h0 h1 hok
  · cases hf : rFitB (dgS h) (expI h).op (expI h).rd (expI h).rs1 (expI h).rs2 (expI h).imm
    · have e : rGetB h = false := by unfold rGetB; rw [hok, hf]; rfl
      rw [e, if_neg (by simp)]
      exact rGet_miss h w h0 h1 hok hf
    · have e : rGetB h = true := by unfold rGetB; rw [hok, hf]; rfl
      rw [e, if_pos rfl]
      exact rGet_hit h w h0 h1 hok hf

end Go.Proofs.Ytppnmaklggkogaa

