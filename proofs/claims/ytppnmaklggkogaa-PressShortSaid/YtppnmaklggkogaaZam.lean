/- Parts of the proof, one behind the other. -/
import Derived.Test.YtppnmaklggkogaaZag
import Derived.Test.YtppnmaklggkogaaZah
import Derived.Test.YtppnmaklggkogaaZak
import Derived.Test.YtppnmaklggkogaaZal
/- Plain: the diagram by bits; what a row reads, whatever it asks. -/
namespace Go.Proofs.Ytppnmaklggkogaa
open Go.RowKit
set_option linter.unusedVariables false
set_option linter.unusedSimpArgs false

/-- The diagram, by the bits. -/
def dgB (b0 b1 b2 b3 b4 b5 b6 b7 b8 b9 b10 b11 b12 b13 b14 b15 : Int) : Nat :=
  if 8 * b0 + 16 * b1 + b13 + 2 * b14 + 4 * b15 = 0 then 0 else if 8 * b0 + 16 * b1 + b13 + 2 * b14 + 4 * b15 = 2 then 1 else if 8 * b0 + 16 * b1 + b13 + 2 * b14 + 4 * b15 = 6 then 2
  else if 8 * b0 + 16 * b1 + b13 + 2 * b14 + 4 * b15 = 8 then (if b7 + 2 * b8 + 4 * b9 + 8 * b10 + 16 * b11 = 0 then 3 else 4)
  else if 8 * b0 + 16 * b1 + b13 + 2 * b14 + 4 * b15 = 9 then 5 else if 8 * b0 + 16 * b1 + b13 + 2 * b14 + 4 * b15 = 10 then 6
  else if 8 * b0 + 16 * b1 + b13 + 2 * b14 + 4 * b15 = 11 then (if b7 + 2 * b8 + 4 * b9 + 8 * b10 + 16 * b11 = 2 then 7 else 8)
  else if 8 * b0 + 16 * b1 + b13 + 2 * b14 + 4 * b15 = 12 then (if b10 + 2 * b11 < 3 then 9 + (b10 + 2 * b11).toNat else 12 + (b5 + 2 * b6).toNat)
  else if 8 * b0 + 16 * b1 + b13 + 2 * b14 + 4 * b15 = 13 then 16 else if 8 * b0 + 16 * b1 + b13 + 2 * b14 + 4 * b15 = 14 then 17 else if 8 * b0 + 16 * b1 + b13 + 2 * b14 + 4 * b15 = 15 then 18
  else if 8 * b0 + 16 * b1 + b13 + 2 * b14 + 4 * b15 = 16 then 19 else if 8 * b0 + 16 * b1 + b13 + 2 * b14 + 4 * b15 = 18 then 20
  else if 8 * b0 + 16 * b1 + b13 + 2 * b14 + 4 * b15 = 20 then (if 0 < b2 + 2 * b3 + 4 * b4 + 8 * b5 + 16 * b6 then (if b12 = 0 then 22 else 25) else if 0 < b7 + 2 * b8 + 4 * b9 + 8 * b10 + 16 * b11 then (if b12 = 0 then 21 else 24) else 23)
  else if 8 * b0 + 16 * b1 + b13 + 2 * b14 + 4 * b15 = 22 then 26 else 27

theorem dgN_bits (x : Int) (h0 : 0 ≤ x) (h1 : x < 65536) : dgN x = dgB (bt x 0) (bt x 1) (bt x 2) (bt x 3) (bt x 4) (bt x 5) (bt x 6) (bt x 7) (bt x 8) (bt x 9) (bt x 10) (bt x 11) (bt x 12) (bt x 13) (bt x 14) (bt x 15) := by
  have hx := fld_bits x h0 h1
  have a0 := bt_bd x 0
  have a1 := bt_bd x 1
  have a2 := bt_bd x 2
  have a3 := bt_bd x 3
  have a4 := bt_bd x 4
  have a5 := bt_bd x 5
  have a6 := bt_bd x 6
  have a7 := bt_bd x 7
  have a8 := bt_bd x 8
  have a9 := bt_bd x 9
  have a10 := bt_bd x 10
  have a11 := bt_bd x 11
  have a12 := bt_bd x 12
  have a13 := bt_bd x 13
  have a14 := bt_bd x 14
  have a15 := bt_bd x 15
  clear h0 h1
  have e1 : x % 4 = bt x 0 + 2 * bt x 1 := by omega
  have e2 : x / 8192 = bt x 13 + 2 * bt x 14 + 4 * bt x 15 := by omega
  have e3 : x / 128 % 32 = bt x 7 + 2 * bt x 8 + 4 * bt x 9 + 8 * bt x 10 + 16 * bt x 11 := by omega
  have e4 : x / 1024 % 4 = bt x 10 + 2 * bt x 11 := by omega
  have e5 : x / 32 % 4 = bt x 5 + 2 * bt x 6 := by omega
  have e6 : x / 4 % 32 = bt x 2 + 2 * bt x 3 + 4 * bt x 4 + 8 * bt x 5 + 16 * bt x 6 := by omega
  have e7 : x / 4096 % 2 = bt x 12 := by omega
  have e8 : x % 4 * 8 + x / 8192 = 8 * bt x 0 + 16 * bt x 1 + bt x 13 + 2 * bt x 14 + 4 * bt x 15 := by omega
  unfold dgN dgB
  rw [e8, e3, e4, e5, e6, e7]

/-- Does what is fixed stand there? -/
def chk (h : Int) : List UInt8 → Bool
  | [] => true
  | c :: l => (if c = 48 then bn h l.length == 0 else if c = 49 then bn h l.length == 1 else true) && chk h l

/-- What is read, with the number's bits added up. -/
def getT (h : Int) : List UInt8 → GS → GS
  | [], s => s
  | c :: l, s => getT h l (
      if c = 48 then s else if c = 49 then s
      else if c = 68 then ⟨s.num, s.wid, 2 * s.rd + bn h l.length, s.rs1, s.rs2⟩
      else if c = 83 then ⟨s.num, s.wid, s.rd, 2 * s.rs1 + bn h l.length, s.rs2⟩
      else if c = 84 then ⟨s.num, s.wid, s.rd, s.rs1, 2 * s.rs2 + bn h l.length⟩
      else ⟨s.num + bn h l.length * 2 ^ (c.toNat - 97), max s.wid (c.toNat - 96), s.rd, s.rs1, s.rs2⟩)

def isLet (c : UInt8) : Bool := decide (97 ≤ c.toNat)

theorem or_clear (a b k : Nat) (ha : a < 262144) (hb : b ≤ 1) (hk : k ≤ 17) (h : a.testBit k = false) : a ||| (b * 2 ^ k) = a + b * 2 ^ k := by
  have h1 : b * 2 ^ k < 262144 := by
    have : 2 ^ k ≤ 2 ^ 17 := Nat.pow_le_pow_right (by omega) hk
    have h2 : b * 2 ^ k ≤ 1 * 2 ^ k := Nat.mul_le_mul_right _ hb
    omega
  refine or_add (M := a) (N := b * 2 ^ k) ?_ ?_ ?_ (by omega) (by omega)
  · unfold Sub; exact Nat.and_self a
  · unfold Sub; exact Nat.and_self _
  · rcases (by omega : b = 0 ∨ b = 1) with rfl | rfl
    · simp
    · rw [Nat.one_mul]
      apply Nat.eq_of_testBit_eq
      intro i
      rw [Nat.testBit_and, Nat.testBit_two_pow, Nat.zero_testBit]
      by_cases e : k = i
      · subst e; simp [h]
      · simp [e]

theorem or_test (a b k j : Nat) (hb : b ≤ 1) (hj : j ≠ k) : (a ||| (b * 2 ^ k)).testBit j = a.testBit j := by
  rw [Nat.testBit_or]
  rcases (by omega : b = 0 ∨ b = 1) with rfl | rfl
  · simp
  · rw [Nat.one_mul, Nat.testBit_two_pow]
    simp [Ne.symm hj]

theorem getS_T (h : Int) (l : List UInt8) (s : GS) (hn : (l.filter isLet).Nodup) (ho : l.all okC = true) (hs : s.num < 262144) (hc : ∀ c ∈ l, isLet c = true → s.num.testBit (c.toNat - 97) = false) :
    getS h l s = if chk h l = true then some (getT h l s) else none := by
  induction l generalizing s with
  | nil => rfl
  | cons c l ih =>
    have hn2 : (l.filter isLet).Nodup := by
      rw [List.filter_cons] at hn
      split at hn
      · exact (List.nodup_cons.1 hn).2
      · exact hn
    have hoc : okC c = true := by rw [List.all_cons, Bool.and_eq_true] at ho; exact ho.1
    have ho2 : l.all okC = true := by rw [List.all_cons, Bool.and_eq_true] at ho; exact ho.2
    have hc2 : ∀ x ∈ l, isLet x = true → s.num.testBit (x.toNat - 97) = false := fun x hx => hc x (List.mem_cons_of_mem _ hx)
    have hb := bn_le h l.length
    unfold getS chk getT gstep
    by_cases e1 : c = 48
    · subst e1
      simp only [if_true]
      by_cases eb : bn h l.length = 0
      · simp only [eb, if_true]
        rw [ih s hn2 ho2 hs hc2]
        simp
      · simp [eb]
    by_cases e2 : c = 49
    · subst e2
      by_cases eb : bn h l.length = 1
      · simp [eb]
        rw [ih s hn2 ho2 hs hc2]
      · simp [eb]
    by_cases e3 : c = 68
    · subst e3
      simp
      exact ih _ hn2 ho2 hs hc2
    by_cases e4 : c = 83
    · subst e4
      simp
      exact ih _ hn2 ho2 hs hc2
    by_cases e5 : c = 84
    · subst e5
      simp
      exact ih _ hn2 ho2 hs hc2
    simp only [e1, e2, e3, e4, e5, if_false, Bool.true_and]
    have hl : 97 ≤ c.toNat ∧ c.toNat ≤ 114 := by
      unfold okC at hoc
      simp only [Bool.or_eq_true, beq_iff_eq, Bool.and_eq_true, decide_eq_true_eq] at hoc
      rcases hoc with ((((h | h) | h) | h) | h) | h
      · exact absurd h e1
      · exact absurd h e2
      · exact absurd h e3
      · exact absurd h e4
      · exact absurd h e5
      · exact h
    have hcl : isLet c = true := by unfold isLet; simp; exact hl.1
    have hclear := hc c (List.mem_cons_self) hcl
    rw [← or_clear s.num (bn h l.length) (c.toNat - 97) hs hb (by omega) hclear]
    rw [ih _ hn2 ho2 (or_lt18 _ _ _ hs hb (by omega))]
    intro x hx hxl
    rw [or_test _ _ _ _ hb]
    · exact hc2 x hx hxl
    · intro e
      rw [List.filter_cons, if_pos hcl] at hn
      have hxc : x = c := by
        apply UInt8.toNat_inj.1
        unfold isLet at hxl
        have : 97 ≤ x.toNat := by simpa using hxl
        omega
      subst hxc
      exact (List.nodup_cons.1 hn).1 (List.mem_filter.2 ⟨hx, hxl⟩)

end Go.Proofs.Ytppnmaklggkogaa

/- What the document asks of an instruction, by the short. -/
namespace Go.Proofs.Ytppnmaklggkogaa
open Go.RowKit
set_option linter.unusedVariables false
set_option linter.unusedSimpArgs false

/-- What the document asks of an instruction, by the short. -/
def refL (s : List UInt8) (rd rs1 rs2 imm : Int) : List Bool := [
  ((s == [97, 100, 100, 105]) && (fewB rd && ((rs1 == 2) && fromB imm 4 4 1020))),
  ((s == [108, 119]) && (fewB rd && (fewB rs1 && fromB imm 4 0 124))),
  ((s == [115, 119]) && (fewB rs1 && (fewB rs2 && fromB imm 4 0 124))),
  ((s == [97, 100, 100, 105]) && ((rd == 0) && ((rs1 == 0) && (imm == 0)))),
  ((s == [97, 100, 100, 105]) && (!(rd == 0) && ((rd == rs1) && (fromB imm 1 (-32) 31 && !(imm == 0))))),
  ((s == [106, 97, 108]) && ((rd == 1) && fromB imm 2 (-2048) 2047)),
  ((s == [97, 100, 100, 105]) && (!(rd == 0) && ((rs1 == 0) && fromB imm 1 (-32) 31))),
  ((s == [97, 100, 100, 105]) && ((rd == 2) && ((rs1 == 2) && (fromB imm 16 (-512) 511 && !(imm == 0))))),
  ((s == [108, 117, 105]) && (!(rd == 0) && (!(rd == 2) && (fromB imm 4096 (-131072) 126976 && !(imm == 0))))),
  (([99, 46] ++ s == [99, 46, 115, 114, 108, 105]) && (fewB rd && ((rd == rs1) && fromB imm 1 1 31))),
  (([99, 46] ++ s == [99, 46, 115, 114, 97, 105]) && (fewB rd && ((rd == rs1) && fromB imm 1 1 31))),
  ((s == [97, 110, 100, 105]) && (fewB rd && ((rd == rs1) && fromB imm 1 (-32) 31))),
  (([99, 46] ++ s == [99, 46, 115, 117, 98]) && (fewB rd && ((rd == rs1) && fewB rs2))),
  (([99, 46] ++ s == [99, 46, 120, 111, 114]) && (fewB rd && ((rd == rs1) && fewB rs2))),
  (([99, 46] ++ s == [99, 46, 111, 114]) && (fewB rd && ((rd == rs1) && fewB rs2))),
  (([99, 46] ++ s == [99, 46, 97, 110, 100]) && (fewB rd && ((rd == rs1) && fewB rs2))),
  ((s == [106, 97, 108]) && ((rd == 0) && fromB imm 2 (-2048) 2047)),
  ((s == [98, 101, 113]) && (fewB rs1 && ((rs2 == 0) && fromB imm 2 (-256) 255))),
  ((s == [98, 110, 101]) && (fewB rs1 && ((rs2 == 0) && fromB imm 2 (-256) 255))),
  ((s == [115, 108, 108, 105]) && (!(rd == 0) && ((rd == rs1) && fromB imm 1 1 31))),
  ((s == [108, 119]) && (!(rd == 0) && ((rs1 == 2) && fromB imm 4 0 252))),
  ((s == [106, 97, 108, 114]) && ((rd == 0) && (!(rs1 == 0) && (imm == 0)))),
  ((s == [97, 100, 100]) && (!(rd == 0) && ((rs1 == 0) && !(rs2 == 0)))),
  (s == [101, 98, 114, 101, 97, 107]),
  ((s == [106, 97, 108, 114]) && ((rd == 1) && (!(rs1 == 0) && (imm == 0)))),
  ((s == [97, 100, 100]) && (!(rd == 0) && ((rd == rs1) && !(rs2 == 0)))),
  ((s == [115, 119]) && ((rs1 == 2) && fromB imm 4 0 252))]

def refB (l s : List UInt8) (rd rs1 rs2 imm : Int) : Bool := (refL s rd rs1 rs2 imm).getD (shB.idxOf l) false

def rFitB (l : List UInt8) (op rd rs1 rs2 imm : Int) : Bool := mayB op rd rs1 rs2 imm && refB l (nmB.getD op.toNat []) rd rs1 rs2 imm

theorem may_nm (op rd rs1 rs2 imm : Int) (h : mayB op rd rs1 rs2 imm = true) : ∃ k : Nat, op = k ∧ k < 49 ∧ nmB[k]? = some (nmB.getD op.toNat []) := by
  have hf : formN op ≠ 0 := by
    intro e
    simp [mayB, e] at h
  have hk : op.toNat < 49 := by
    by_cases hl : op.toNat < 49
    · exact hl
    · exact absurd (by unfold formN; rw [List.getD_eq_getElem?_getD, List.getElem?_eq_none (by show 49 ≤ op.toNat; omega)]; rfl) hf
  have h0 : 0 < op := by
    rcases Int.lt_or_le 0 op with h1 | h1
    · exact h1
    · exact absurd (by unfold formN; rw [show op.toNat = 0 by omega]; rfl) hf
  refine ⟨op.toNat, by omega, hk, ?_⟩
  rw [List.getD_eq_getElem?_getD, List.getElem?_eq_getElem (show op.toNat < nmB.length from hk)]
  rfl

theorem bytes_eq {nm : ByteArray} {l : List UInt8} (h : nm.toList = l) : nm = B l := by
  have : nm.data.toList = l := by rw [← h, ByteArray.toList_eq]
  cases nm
  subst this
  simp [B]

end Go.Proofs.Ytppnmaklggkogaa

/- Plain: what a row of press asks is what the document asks. -/
namespace Go.Proofs.Ytppnmaklggkogaa
open Go.RowKit
set_option linter.unusedVariables false
set_option linter.unusedSimpArgs false

theorem nm_ne (op rd rs1 rs2 imm : Int) (n : Nat) (l : List UInt8) (hm : mayB op rd rs1 rs2 imm = true) (ho : ¬ op = (n : Int)) (hl : ∀ k, k < 49 → nmB[k]? = some l → k = n) : (nmB.getD op.toNat [] == l) = false := by
  obtain ⟨k, e, hk, hs⟩ := may_nm op rd rs1 rs2 imm hm
  apply Bool.eq_false_iff.2
  intro h
  have e2 : nmB.getD op.toNat [] = l := by simpa using h
  rw [e2] at hs
  have := hl k hk hs
  omega

theorem fit_0 (op rd rs1 rs2 imm : Int) : fitsB (⟨[99, 46, 97, 100, 100, 105, 52, 115, 112, 110], 19, 4, 2, 0, 4, 1020, 4, 0, [48, 48, 48, 102, 101, 106, 105, 104, 103, 99, 100, 68, 68, 68, 48, 48]⟩ : PR) op rd rs1 rs2 imm = (mayB op rd rs1 rs2 imm && ((nmB.getD op.toNat [] == [97, 100, 100, 105]) && (fewB rd && ((rs1 == 2) && fromB imm 4 4 1020)))) := by
  cases hm : mayB op rd rs1 rs2 imm
  · simp [fitsB, hm]
  · by_cases ho : op = 19
    · subst ho
      have hs : nmB.getD (19 : Int).toNat [] = [97, 100, 100, 105] := rfl
      have hf : formN 19 = 6 := rfl
      rw [hs]
      have hm2 := hm
      simp only [mayB, hf] at hm2
      simp [regB, needD, needS, needT, numB] at hm2
      rw [Bool.eq_iff_iff]
      simp [fitsB, hm, kindB, fewB, fromB]
      try omega
    · have hs : (nmB.getD op.toNat [] == [97, 100, 100, 105]) = false := nm_ne op rd rs1 rs2 imm 19 [97, 100, 100, 105] hm ho (by decide)
      simp only [fitsB, hm]
      simp only [hs]
      simp [ho]

theorem fit_1 (op rd rs1 rs2 imm : Int) : fitsB (⟨[99, 46, 108, 119], 13, 4, 4, 0, 0, 124, 4, 0, [48, 49, 48, 102, 101, 100, 83, 83, 83, 99, 103, 68, 68, 68, 48, 48]⟩ : PR) op rd rs1 rs2 imm = (mayB op rd rs1 rs2 imm && ((nmB.getD op.toNat [] == [108, 119]) && (fewB rd && (fewB rs1 && fromB imm 4 0 124)))) := by
  cases hm : mayB op rd rs1 rs2 imm
  · simp [fitsB, hm]
  · by_cases ho : op = 13
    · subst ho
      have hs : nmB.getD (13 : Int).toNat [] = [108, 119] := rfl
      have hf : formN 13 = 4 := rfl
      rw [hs]
      have hm2 := hm
      simp only [mayB, hf] at hm2
      simp [regB, needD, needS, needT, numB] at hm2
      rw [Bool.eq_iff_iff]
      simp [fitsB, hm, kindB, fewB, fromB]
      try omega
    · have hs : (nmB.getD op.toNat [] == [108, 119]) = false := nm_ne op rd rs1 rs2 imm 13 [108, 119] hm ho (by decide)
      simp only [fitsB, hm]
      simp only [hs]
      simp [ho]

theorem fit_2 (op rd rs1 rs2 imm : Int) : fitsB (⟨[99, 46, 115, 119], 18, 0, 4, 4, 0, 124, 4, 0, [49, 49, 48, 102, 101, 100, 83, 83, 83, 99, 103, 84, 84, 84, 48, 48]⟩ : PR) op rd rs1 rs2 imm = (mayB op rd rs1 rs2 imm && ((nmB.getD op.toNat [] == [115, 119]) && (fewB rs1 && (fewB rs2 && fromB imm 4 0 124)))) := by
  cases hm : mayB op rd rs1 rs2 imm
  · simp [fitsB, hm]
  · by_cases ho : op = 18
    · subst ho
      have hs : nmB.getD (18 : Int).toNat [] = [115, 119] := rfl
      have hf : formN 18 = 5 := rfl
      rw [hs]
      have hm2 := hm
      simp only [mayB, hf] at hm2
      simp [regB, needD, needS, needT, numB] at hm2
      rw [Bool.eq_iff_iff]
      simp [fitsB, hm, kindB, fewB, fromB]
      try omega
    · have hs : (nmB.getD op.toNat [] == [115, 119]) = false := nm_ne op rd rs1 rs2 imm 18 [115, 119] hm ho (by decide)
      simp only [fitsB, hm]
      simp only [hs]
      simp [ho]

theorem fit_3 (op rd rs1 rs2 imm : Int) : fitsB (⟨[99, 46, 110, 111, 112], 19, 0, 0, 0, 0, 0, 1, 0, [48, 48, 48, 48, 48, 48, 48, 48, 48, 48, 48, 48, 48, 48, 48, 49]⟩ : PR) op rd rs1 rs2 imm = (mayB op rd rs1 rs2 imm && ((nmB.getD op.toNat [] == [97, 100, 100, 105]) && ((rd == 0) && ((rs1 == 0) && (imm == 0))))) := by
  cases hm : mayB op rd rs1 rs2 imm
  · simp [fitsB, hm]
  · by_cases ho : op = 19
    · subst ho
      have hs : nmB.getD (19 : Int).toNat [] = [97, 100, 100, 105] := rfl
      have hf : formN 19 = 6 := rfl
      rw [hs]
      have hm2 := hm
      simp only [mayB, hf] at hm2
      simp [regB, needD, needS, needT, numB] at hm2
      rw [Bool.eq_iff_iff]
      simp [fitsB, hm, kindB, fewB, fromB]
      try omega
    · have hs : (nmB.getD op.toNat [] == [97, 100, 100, 105]) = false := nm_ne op rd rs1 rs2 imm 19 [97, 100, 100, 105] hm ho (by decide)
      simp only [fitsB, hm]
      simp only [hs]
      simp [ho]

theorem fit_4 (op rd rs1 rs2 imm : Int) : fitsB (⟨[99, 46, 97, 100, 100, 105], 19, 5, 7, 0, (-32), 31, 1, 1, [48, 48, 48, 102, 68, 68, 68, 68, 68, 101, 100, 99, 98, 97, 48, 49]⟩ : PR) op rd rs1 rs2 imm = (mayB op rd rs1 rs2 imm && ((nmB.getD op.toNat [] == [97, 100, 100, 105]) && (!(rd == 0) && ((rd == rs1) && (fromB imm 1 (-32) 31 && !(imm == 0)))))) := by
  cases hm : mayB op rd rs1 rs2 imm
  · simp [fitsB, hm]
  · by_cases ho : op = 19
    · subst ho
      have hs : nmB.getD (19 : Int).toNat [] = [97, 100, 100, 105] := rfl
      have hf : formN 19 = 6 := rfl
      rw [hs]
      have hm2 := hm
      simp only [mayB, hf] at hm2
      simp [regB, needD, needS, needT, numB] at hm2
      rw [Bool.eq_iff_iff]
      simp [fitsB, hm, kindB, fewB, fromB]
      try omega
    · have hs : (nmB.getD op.toNat [] == [97, 100, 100, 105]) = false := nm_ne op rd rs1 rs2 imm 19 [97, 100, 100, 105] hm ho (by decide)
      simp only [fitsB, hm]
      simp only [hs]
      simp [ho]

theorem fit_5 (op rd rs1 rs2 imm : Int) : fitsB (⟨[99, 46, 106, 97, 108], 3, 1, 0, 0, (-2048), 2046, 2, 0, [48, 48, 49, 108, 101, 106, 105, 107, 103, 104, 100, 99, 98, 102, 48, 49]⟩ : PR) op rd rs1 rs2 imm = (mayB op rd rs1 rs2 imm && ((nmB.getD op.toNat [] == [106, 97, 108]) && ((rd == 1) && fromB imm 2 (-2048) 2047))) := by
  cases hm : mayB op rd rs1 rs2 imm
  · simp [fitsB, hm]
  · by_cases ho : op = 3
    · subst ho
      have hs : nmB.getD (3 : Int).toNat [] = [106, 97, 108] := rfl
      have hf : formN 3 = 2 := rfl
      rw [hs]
      have hm2 := hm
      simp only [mayB, hf] at hm2
      simp [regB, needD, needS, needT, numB] at hm2
      rw [Bool.eq_iff_iff]
      simp [fitsB, hm, kindB, fewB, fromB]
      try omega
    · have hs : (nmB.getD op.toNat [] == [106, 97, 108]) = false := nm_ne op rd rs1 rs2 imm 3 [106, 97, 108] hm ho (by decide)
      simp only [fitsB, hm]
      simp only [hs]
      simp [ho]

theorem fit_6 (op rd rs1 rs2 imm : Int) : fitsB (⟨[99, 46, 108, 105], 19, 5, 0, 0, (-32), 31, 1, 0, [48, 49, 48, 102, 68, 68, 68, 68, 68, 101, 100, 99, 98, 97, 48, 49]⟩ : PR) op rd rs1 rs2 imm = (mayB op rd rs1 rs2 imm && ((nmB.getD op.toNat [] == [97, 100, 100, 105]) && (!(rd == 0) && ((rs1 == 0) && fromB imm 1 (-32) 31)))) := by
  cases hm : mayB op rd rs1 rs2 imm
  · simp [fitsB, hm]
  · by_cases ho : op = 19
    · subst ho
      have hs : nmB.getD (19 : Int).toNat [] = [97, 100, 100, 105] := rfl
      have hf : formN 19 = 6 := rfl
      rw [hs]
      have hm2 := hm
      simp only [mayB, hf] at hm2
      simp [regB, needD, needS, needT, numB] at hm2
      rw [Bool.eq_iff_iff]
      simp [fitsB, hm, kindB, fewB, fromB]
      try omega
    · have hs : (nmB.getD op.toNat [] == [97, 100, 100, 105]) = false := nm_ne op rd rs1 rs2 imm 19 [97, 100, 100, 105] hm ho (by decide)
      simp only [fitsB, hm]
      simp only [hs]
      simp [ho]

theorem fit_7 (op rd rs1 rs2 imm : Int) : fitsB (⟨[99, 46, 97, 100, 100, 105, 49, 54, 115, 112], 19, 2, 7, 0, (-512), 496, 16, 1, [48, 49, 49, 106, 48, 48, 48, 49, 48, 101, 103, 105, 104, 102, 48, 49]⟩ : PR) op rd rs1 rs2 imm = (mayB op rd rs1 rs2 imm && ((nmB.getD op.toNat [] == [97, 100, 100, 105]) && ((rd == 2) && ((rs1 == 2) && (fromB imm 16 (-512) 511 && !(imm == 0)))))) := by
  cases hm : mayB op rd rs1 rs2 imm
  · simp [fitsB, hm]
  · by_cases ho : op = 19
    · subst ho
      have hs : nmB.getD (19 : Int).toNat [] = [97, 100, 100, 105] := rfl
      have hf : formN 19 = 6 := rfl
      rw [hs]
      have hm2 := hm
      simp only [mayB, hf] at hm2
      simp [regB, needD, needS, needT, numB] at hm2
      rw [Bool.eq_iff_iff]
      simp [fitsB, hm, kindB, fewB, fromB]
      try omega
    · have hs : (nmB.getD op.toNat [] == [97, 100, 100, 105]) = false := nm_ne op rd rs1 rs2 imm 19 [97, 100, 100, 105] hm ho (by decide)
      simp only [fitsB, hm]
      simp only [hs]
      simp [ho]

theorem fit_8 (op rd rs1 rs2 imm : Int) : fitsB (⟨[99, 46, 108, 117, 105], 1, 6, 0, 0, (-131072), 126976, 4096, 1, [48, 49, 49, 114, 68, 68, 68, 68, 68, 113, 112, 111, 110, 109, 48, 49]⟩ : PR) op rd rs1 rs2 imm = (mayB op rd rs1 rs2 imm && ((nmB.getD op.toNat [] == [108, 117, 105]) && (!(rd == 0) && (!(rd == 2) && (fromB imm 4096 (-131072) 126976 && !(imm == 0)))))) := by
  cases hm : mayB op rd rs1 rs2 imm
  · simp [fitsB, hm]
  · by_cases ho : op = 1
    · subst ho
      have hs : nmB.getD (1 : Int).toNat [] = [108, 117, 105] := rfl
      have hf : formN 1 = 1 := rfl
      rw [hs]
      have hm2 := hm
      simp only [mayB, hf] at hm2
      simp [regB, needD, needS, needT, numB] at hm2
      rw [Bool.eq_iff_iff]
      simp [fitsB, hm, kindB, fewB, fromB]
      try omega
    · have hs : (nmB.getD op.toNat [] == [108, 117, 105]) = false := nm_ne op rd rs1 rs2 imm 1 [108, 117, 105] hm ho (by decide)
      simp only [fitsB, hm]
      simp only [hs]
      simp [ho]

theorem fit_9 (op rd rs1 rs2 imm : Int) : fitsB (⟨[99, 46, 115, 114, 108, 105], 26, 4, 7, 0, 1, 31, 1, 0, [49, 48, 48, 48, 48, 48, 68, 68, 68, 101, 100, 99, 98, 97, 48, 49]⟩ : PR) op rd rs1 rs2 imm = (mayB op rd rs1 rs2 imm && (([99, 46] ++ nmB.getD op.toNat [] == [99, 46, 115, 114, 108, 105]) && (fewB rd && ((rd == rs1) && fromB imm 1 1 31)))) := by
  cases hm : mayB op rd rs1 rs2 imm
  · simp [fitsB, hm]
  · by_cases ho : op = 26
    · subst ho
      have hs : nmB.getD (26 : Int).toNat [] = [115, 114, 108, 105] := rfl
      have hf : formN 26 = 7 := rfl
      rw [hs]
      have hm2 := hm
      simp only [mayB, hf] at hm2
      simp [regB, needD, needS, needT, numB] at hm2
      rw [Bool.eq_iff_iff]
      simp [fitsB, hm, kindB, fewB, fromB]
      try omega
    · have hs : (nmB.getD op.toNat [] == [115, 114, 108, 105]) = false := nm_ne op rd rs1 rs2 imm 26 [115, 114, 108, 105] hm ho (by decide)
      simp only [fitsB, hm]
      have hs2 : ([99, 46] ++ nmB.getD op.toNat [] == [99, 46, 115, 114, 108, 105]) = false := by simpa using hs
      simp only [hs2]
      simp [ho]

theorem fit_10 (op rd rs1 rs2 imm : Int) : fitsB (⟨[99, 46, 115, 114, 97, 105], 27, 4, 7, 0, 1, 31, 1, 0, [49, 48, 48, 48, 48, 49, 68, 68, 68, 101, 100, 99, 98, 97, 48, 49]⟩ : PR) op rd rs1 rs2 imm = (mayB op rd rs1 rs2 imm && (([99, 46] ++ nmB.getD op.toNat [] == [99, 46, 115, 114, 97, 105]) && (fewB rd && ((rd == rs1) && fromB imm 1 1 31)))) := by
  cases hm : mayB op rd rs1 rs2 imm
  · simp [fitsB, hm]
  · by_cases ho : op = 27
    · subst ho
      have hs : nmB.getD (27 : Int).toNat [] = [115, 114, 97, 105] := rfl
      have hf : formN 27 = 7 := rfl
      rw [hs]
      have hm2 := hm
      simp only [mayB, hf] at hm2
      simp [regB, needD, needS, needT, numB] at hm2
      rw [Bool.eq_iff_iff]
      simp [fitsB, hm, kindB, fewB, fromB]
      try omega
    · have hs : (nmB.getD op.toNat [] == [115, 114, 97, 105]) = false := nm_ne op rd rs1 rs2 imm 27 [115, 114, 97, 105] hm ho (by decide)
      simp only [fitsB, hm]
      have hs2 : ([99, 46] ++ nmB.getD op.toNat [] == [99, 46, 115, 114, 97, 105]) = false := by simpa using hs
      simp only [hs2]
      simp [ho]

theorem fit_11 (op rd rs1 rs2 imm : Int) : fitsB (⟨[99, 46, 97, 110, 100, 105], 24, 4, 7, 0, (-32), 31, 1, 0, [49, 48, 48, 102, 49, 48, 68, 68, 68, 101, 100, 99, 98, 97, 48, 49]⟩ : PR) op rd rs1 rs2 imm = (mayB op rd rs1 rs2 imm && ((nmB.getD op.toNat [] == [97, 110, 100, 105]) && (fewB rd && ((rd == rs1) && fromB imm 1 (-32) 31)))) := by
  cases hm : mayB op rd rs1 rs2 imm
  · simp [fitsB, hm]
  · by_cases ho : op = 24
    · subst ho
      have hs : nmB.getD (24 : Int).toNat [] = [97, 110, 100, 105] := rfl
      have hf : formN 24 = 6 := rfl
      rw [hs]
      have hm2 := hm
      simp only [mayB, hf] at hm2
      simp [regB, needD, needS, needT, numB] at hm2
      rw [Bool.eq_iff_iff]
      simp [fitsB, hm, kindB, fewB, fromB]
      try omega
    · have hs : (nmB.getD op.toNat [] == [97, 110, 100, 105]) = false := nm_ne op rd rs1 rs2 imm 24 [97, 110, 100, 105] hm ho (by decide)
      simp only [fitsB, hm]
      simp only [hs]
      simp [ho]

theorem fit_12 (op rd rs1 rs2 imm : Int) : fitsB (⟨[99, 46, 115, 117, 98], 29, 4, 7, 4, 0, 0, 1, 0, [49, 48, 48, 48, 49, 49, 68, 68, 68, 48, 48, 84, 84, 84, 48, 49]⟩ : PR) op rd rs1 rs2 imm = (mayB op rd rs1 rs2 imm && (([99, 46] ++ nmB.getD op.toNat [] == [99, 46, 115, 117, 98]) && (fewB rd && ((rd == rs1) && fewB rs2)))) := by
  cases hm : mayB op rd rs1 rs2 imm
  · simp [fitsB, hm]
  · by_cases ho : op = 29
    · subst ho
      have hs : nmB.getD (29 : Int).toNat [] = [115, 117, 98] := rfl
      have hf : formN 29 = 8 := rfl
      rw [hs]
      have hm2 := hm
      simp only [mayB, hf] at hm2
      simp [regB, needD, needS, needT, numB] at hm2
      rw [Bool.eq_iff_iff]
      simp [fitsB, hm, kindB, fewB, fromB]
      try omega
    · have hs : (nmB.getD op.toNat [] == [115, 117, 98]) = false := nm_ne op rd rs1 rs2 imm 29 [115, 117, 98] hm ho (by decide)
      simp only [fitsB, hm]
      have hs2 : ([99, 46] ++ nmB.getD op.toNat [] == [99, 46, 115, 117, 98]) = false := by simpa using hs
      simp only [hs2]
      simp [ho]

theorem fit_13 (op rd rs1 rs2 imm : Int) : fitsB (⟨[99, 46, 120, 111, 114], 33, 4, 7, 4, 0, 0, 1, 0, [49, 48, 48, 48, 49, 49, 68, 68, 68, 48, 49, 84, 84, 84, 48, 49]⟩ : PR) op rd rs1 rs2 imm = (mayB op rd rs1 rs2 imm && (([99, 46] ++ nmB.getD op.toNat [] == [99, 46, 120, 111, 114]) && (fewB rd && ((rd == rs1) && fewB rs2)))) := by
  cases hm : mayB op rd rs1 rs2 imm
  · simp [fitsB, hm]
  · by_cases ho : op = 33
    · subst ho
      have hs : nmB.getD (33 : Int).toNat [] = [120, 111, 114] := rfl
      have hf : formN 33 = 8 := rfl
      rw [hs]
      have hm2 := hm
      simp only [mayB, hf] at hm2
      simp [regB, needD, needS, needT, numB] at hm2
      rw [Bool.eq_iff_iff]
      simp [fitsB, hm, kindB, fewB, fromB]
      try omega
    · have hs : (nmB.getD op.toNat [] == [120, 111, 114]) = false := nm_ne op rd rs1 rs2 imm 33 [120, 111, 114] hm ho (by decide)
      simp only [fitsB, hm]
      have hs2 : ([99, 46] ++ nmB.getD op.toNat [] == [99, 46, 120, 111, 114]) = false := by simpa using hs
      simp only [hs2]
      simp [ho]

theorem fit_14 (op rd rs1 rs2 imm : Int) : fitsB (⟨[99, 46, 111, 114], 36, 4, 7, 4, 0, 0, 1, 0, [49, 48, 48, 48, 49, 49, 68, 68, 68, 49, 48, 84, 84, 84, 48, 49]⟩ : PR) op rd rs1 rs2 imm = (mayB op rd rs1 rs2 imm && (([99, 46] ++ nmB.getD op.toNat [] == [99, 46, 111, 114]) && (fewB rd && ((rd == rs1) && fewB rs2)))) := by
  cases hm : mayB op rd rs1 rs2 imm
  · simp [fitsB, hm]
  · by_cases ho : op = 36
    · subst ho
      have hs : nmB.getD (36 : Int).toNat [] = [111, 114] := rfl
      have hf : formN 36 = 8 := rfl
      rw [hs]
      have hm2 := hm
      simp only [mayB, hf] at hm2
      simp [regB, needD, needS, needT, numB] at hm2
      rw [Bool.eq_iff_iff]
      simp [fitsB, hm, kindB, fewB, fromB]
      try omega
    · have hs : (nmB.getD op.toNat [] == [111, 114]) = false := nm_ne op rd rs1 rs2 imm 36 [111, 114] hm ho (by decide)
      simp only [fitsB, hm]
      have hs2 : ([99, 46] ++ nmB.getD op.toNat [] == [99, 46, 111, 114]) = false := by simpa using hs
      simp only [hs2]
      simp [ho]

theorem fit_15 (op rd rs1 rs2 imm : Int) : fitsB (⟨[99, 46, 97, 110, 100], 37, 4, 7, 4, 0, 0, 1, 0, [49, 48, 48, 48, 49, 49, 68, 68, 68, 49, 49, 84, 84, 84, 48, 49]⟩ : PR) op rd rs1 rs2 imm = (mayB op rd rs1 rs2 imm && (([99, 46] ++ nmB.getD op.toNat [] == [99, 46, 97, 110, 100]) && (fewB rd && ((rd == rs1) && fewB rs2)))) := by
  cases hm : mayB op rd rs1 rs2 imm
  · simp [fitsB, hm]
  · by_cases ho : op = 37
    · subst ho
      have hs : nmB.getD (37 : Int).toNat [] = [97, 110, 100] := rfl
      have hf : formN 37 = 8 := rfl
      rw [hs]
      have hm2 := hm
      simp only [mayB, hf] at hm2
      simp [regB, needD, needS, needT, numB] at hm2
      rw [Bool.eq_iff_iff]
      simp [fitsB, hm, kindB, fewB, fromB]
      try omega
    · have hs : (nmB.getD op.toNat [] == [97, 110, 100]) = false := nm_ne op rd rs1 rs2 imm 37 [97, 110, 100] hm ho (by decide)
      simp only [fitsB, hm]
      have hs2 : ([99, 46] ++ nmB.getD op.toNat [] == [99, 46, 97, 110, 100]) = false := by simpa using hs
      simp only [hs2]
      simp [ho]

theorem fit_16 (op rd rs1 rs2 imm : Int) : fitsB (⟨[99, 46, 106], 3, 0, 0, 0, (-2048), 2046, 2, 0, [49, 48, 49, 108, 101, 106, 105, 107, 103, 104, 100, 99, 98, 102, 48, 49]⟩ : PR) op rd rs1 rs2 imm = (mayB op rd rs1 rs2 imm && ((nmB.getD op.toNat [] == [106, 97, 108]) && ((rd == 0) && fromB imm 2 (-2048) 2047))) := by
  cases hm : mayB op rd rs1 rs2 imm
  · simp [fitsB, hm]
  · by_cases ho : op = 3
    · subst ho
      have hs : nmB.getD (3 : Int).toNat [] = [106, 97, 108] := rfl
      have hf : formN 3 = 2 := rfl
      rw [hs]
      have hm2 := hm
      simp only [mayB, hf] at hm2
      simp [regB, needD, needS, needT, numB] at hm2
      rw [Bool.eq_iff_iff]
      simp [fitsB, hm, kindB, fewB, fromB]
      try omega
    · have hs : (nmB.getD op.toNat [] == [106, 97, 108]) = false := nm_ne op rd rs1 rs2 imm 3 [106, 97, 108] hm ho (by decide)
      simp only [fitsB, hm]
      simp only [hs]
      simp [ho]

theorem fit_17 (op rd rs1 rs2 imm : Int) : fitsB (⟨[99, 46, 98, 101, 113, 122], 5, 0, 4, 0, (-256), 254, 2, 0, [49, 49, 48, 105, 101, 100, 83, 83, 83, 104, 103, 99, 98, 102, 48, 49]⟩ : PR) op rd rs1 rs2 imm = (mayB op rd rs1 rs2 imm && ((nmB.getD op.toNat [] == [98, 101, 113]) && (fewB rs1 && ((rs2 == 0) && fromB imm 2 (-256) 255)))) := by
  cases hm : mayB op rd rs1 rs2 imm
  · simp [fitsB, hm]
  · by_cases ho : op = 5
    · subst ho
      have hs : nmB.getD (5 : Int).toNat [] = [98, 101, 113] := rfl
      have hf : formN 5 = 3 := rfl
      rw [hs]
      have hm2 := hm
      simp only [mayB, hf] at hm2
      simp [regB, needD, needS, needT, numB] at hm2
      rw [Bool.eq_iff_iff]
      simp [fitsB, hm, kindB, fewB, fromB]
      try omega
    · have hs : (nmB.getD op.toNat [] == [98, 101, 113]) = false := nm_ne op rd rs1 rs2 imm 5 [98, 101, 113] hm ho (by decide)
      simp only [fitsB, hm]
      simp only [hs]
      simp [ho]

theorem fit_18 (op rd rs1 rs2 imm : Int) : fitsB (⟨[99, 46, 98, 110, 101, 122], 6, 0, 4, 0, (-256), 254, 2, 0, [49, 49, 49, 105, 101, 100, 83, 83, 83, 104, 103, 99, 98, 102, 48, 49]⟩ : PR) op rd rs1 rs2 imm = (mayB op rd rs1 rs2 imm && ((nmB.getD op.toNat [] == [98, 110, 101]) && (fewB rs1 && ((rs2 == 0) && fromB imm 2 (-256) 255)))) := by
  cases hm : mayB op rd rs1 rs2 imm
  · simp [fitsB, hm]
  · by_cases ho : op = 6
    · subst ho
      have hs : nmB.getD (6 : Int).toNat [] = [98, 110, 101] := rfl
      have hf : formN 6 = 3 := rfl
      rw [hs]
      have hm2 := hm
      simp only [mayB, hf] at hm2
      simp [regB, needD, needS, needT, numB] at hm2
      rw [Bool.eq_iff_iff]
      simp [fitsB, hm, kindB, fewB, fromB]
      try omega
    · have hs : (nmB.getD op.toNat [] == [98, 110, 101]) = false := nm_ne op rd rs1 rs2 imm 6 [98, 110, 101] hm ho (by decide)
      simp only [fitsB, hm]
      simp only [hs]
      simp [ho]

theorem fit_19 (op rd rs1 rs2 imm : Int) : fitsB (⟨[99, 46, 115, 108, 108, 105], 25, 5, 7, 0, 1, 31, 1, 0, [48, 48, 48, 48, 68, 68, 68, 68, 68, 101, 100, 99, 98, 97, 49, 48]⟩ : PR) op rd rs1 rs2 imm = (mayB op rd rs1 rs2 imm && ((nmB.getD op.toNat [] == [115, 108, 108, 105]) && (!(rd == 0) && ((rd == rs1) && fromB imm 1 1 31)))) := by
  cases hm : mayB op rd rs1 rs2 imm
  · simp [fitsB, hm]
  · by_cases ho : op = 25
    · subst ho
      have hs : nmB.getD (25 : Int).toNat [] = [115, 108, 108, 105] := rfl
      have hf : formN 25 = 7 := rfl
      rw [hs]
      have hm2 := hm
      simp only [mayB, hf] at hm2
      simp [regB, needD, needS, needT, numB] at hm2
      rw [Bool.eq_iff_iff]
      simp [fitsB, hm, kindB, fewB, fromB]
      try omega
    · have hs : (nmB.getD op.toNat [] == [115, 108, 108, 105]) = false := nm_ne op rd rs1 rs2 imm 25 [115, 108, 108, 105] hm ho (by decide)
      simp only [fitsB, hm]
      simp only [hs]
      simp [ho]

theorem fit_20 (op rd rs1 rs2 imm : Int) : fitsB (⟨[99, 46, 108, 119, 115, 112], 13, 5, 2, 0, 0, 252, 4, 0, [48, 49, 48, 102, 68, 68, 68, 68, 68, 101, 100, 99, 104, 103, 49, 48]⟩ : PR) op rd rs1 rs2 imm = (mayB op rd rs1 rs2 imm && ((nmB.getD op.toNat [] == [108, 119]) && (!(rd == 0) && ((rs1 == 2) && fromB imm 4 0 252)))) := by
  cases hm : mayB op rd rs1 rs2 imm
  · simp [fitsB, hm]
  · by_cases ho : op = 13
    · subst ho
      have hs : nmB.getD (13 : Int).toNat [] = [108, 119] := rfl
      have hf : formN 13 = 4 := rfl
      rw [hs]
      have hm2 := hm
      simp only [mayB, hf] at hm2
      simp [regB, needD, needS, needT, numB] at hm2
      rw [Bool.eq_iff_iff]
      simp [fitsB, hm, kindB, fewB, fromB]
      try omega
    · have hs : (nmB.getD op.toNat [] == [108, 119]) = false := nm_ne op rd rs1 rs2 imm 13 [108, 119] hm ho (by decide)
      simp only [fitsB, hm]
      simp only [hs]
      simp [ho]

theorem fit_21 (op rd rs1 rs2 imm : Int) : fitsB (⟨[99, 46, 106, 114], 4, 0, 5, 0, 0, 0, 1, 0, [49, 48, 48, 48, 83, 83, 83, 83, 83, 48, 48, 48, 48, 48, 49, 48]⟩ : PR) op rd rs1 rs2 imm = (mayB op rd rs1 rs2 imm && ((nmB.getD op.toNat [] == [106, 97, 108, 114]) && ((rd == 0) && (!(rs1 == 0) && (imm == 0))))) := by
  cases hm : mayB op rd rs1 rs2 imm
  · simp [fitsB, hm]
  · by_cases ho : op = 4
    · subst ho
      have hs : nmB.getD (4 : Int).toNat [] = [106, 97, 108, 114] := rfl
      have hf : formN 4 = 4 := rfl
      rw [hs]
      have hm2 := hm
      simp only [mayB, hf] at hm2
      simp [regB, needD, needS, needT, numB] at hm2
      rw [Bool.eq_iff_iff]
      simp [fitsB, hm, kindB, fewB, fromB]
      try omega
    · have hs : (nmB.getD op.toNat [] == [106, 97, 108, 114]) = false := nm_ne op rd rs1 rs2 imm 4 [106, 97, 108, 114] hm ho (by decide)
      simp only [fitsB, hm]
      simp only [hs]
      simp [ho]

theorem fit_22 (op rd rs1 rs2 imm : Int) : fitsB (⟨[99, 46, 109, 118], 28, 5, 0, 5, 0, 0, 1, 0, [49, 48, 48, 48, 68, 68, 68, 68, 68, 84, 84, 84, 84, 84, 49, 48]⟩ : PR) op rd rs1 rs2 imm = (mayB op rd rs1 rs2 imm && ((nmB.getD op.toNat [] == [97, 100, 100]) && (!(rd == 0) && ((rs1 == 0) && !(rs2 == 0))))) := by
  cases hm : mayB op rd rs1 rs2 imm
  · simp [fitsB, hm]
  · by_cases ho : op = 28
    · subst ho
      have hs : nmB.getD (28 : Int).toNat [] = [97, 100, 100] := rfl
      have hf : formN 28 = 8 := rfl
      rw [hs]
      have hm2 := hm
      simp only [mayB, hf] at hm2
      simp [regB, needD, needS, needT, numB] at hm2
      rw [Bool.eq_iff_iff]
      simp [fitsB, hm, kindB, fewB, fromB]
      try omega
    · have hs : (nmB.getD op.toNat [] == [97, 100, 100]) = false := nm_ne op rd rs1 rs2 imm 28 [97, 100, 100] hm ho (by decide)
      simp only [fitsB, hm]
      simp only [hs]
      simp [ho]

theorem fit_23 (op rd rs1 rs2 imm : Int) : fitsB (⟨[99, 46, 101, 98, 114, 101, 97, 107], 40, 0, 0, 0, 0, 0, 1, 0, [49, 48, 48, 49, 48, 48, 48, 48, 48, 48, 48, 48, 48, 48, 49, 48]⟩ : PR) op rd rs1 rs2 imm = (mayB op rd rs1 rs2 imm && (nmB.getD op.toNat [] == [101, 98, 114, 101, 97, 107])) := by
  cases hm : mayB op rd rs1 rs2 imm
  · simp [fitsB, hm]
  · by_cases ho : op = 40
    · subst ho
      have hs : nmB.getD (40 : Int).toNat [] = [101, 98, 114, 101, 97, 107] := rfl
      have hf : formN 40 = 9 := rfl
      rw [hs]
      have hm2 := hm
      simp only [mayB, hf] at hm2
      simp [regB, needD, needS, needT, numB] at hm2
      rw [Bool.eq_iff_iff]
      simp [fitsB, hm, kindB, fewB, fromB]
      try omega
    · have hs : (nmB.getD op.toNat [] == [101, 98, 114, 101, 97, 107]) = false := nm_ne op rd rs1 rs2 imm 40 [101, 98, 114, 101, 97, 107] hm ho (by decide)
      simp only [fitsB, hm]
      simp only [hs]
      simp [ho]

theorem fit_24 (op rd rs1 rs2 imm : Int) : fitsB (⟨[99, 46, 106, 97, 108, 114], 4, 1, 5, 0, 0, 0, 1, 0, [49, 48, 48, 49, 83, 83, 83, 83, 83, 48, 48, 48, 48, 48, 49, 48]⟩ : PR) op rd rs1 rs2 imm = (mayB op rd rs1 rs2 imm && ((nmB.getD op.toNat [] == [106, 97, 108, 114]) && ((rd == 1) && (!(rs1 == 0) && (imm == 0))))) := by
  cases hm : mayB op rd rs1 rs2 imm
  · simp [fitsB, hm]
  · by_cases ho : op = 4
    · subst ho
      have hs : nmB.getD (4 : Int).toNat [] = [106, 97, 108, 114] := rfl
      have hf : formN 4 = 4 := rfl
      rw [hs]
      have hm2 := hm
      simp only [mayB, hf] at hm2
      simp [regB, needD, needS, needT, numB] at hm2
      rw [Bool.eq_iff_iff]
      simp [fitsB, hm, kindB, fewB, fromB]
      try omega
    · have hs : (nmB.getD op.toNat [] == [106, 97, 108, 114]) = false := nm_ne op rd rs1 rs2 imm 4 [106, 97, 108, 114] hm ho (by decide)
      simp only [fitsB, hm]
      simp only [hs]
      simp [ho]

theorem fit_25 (op rd rs1 rs2 imm : Int) : fitsB (⟨[99, 46, 97, 100, 100], 28, 5, 7, 5, 0, 0, 1, 0, [49, 48, 48, 49, 68, 68, 68, 68, 68, 84, 84, 84, 84, 84, 49, 48]⟩ : PR) op rd rs1 rs2 imm = (mayB op rd rs1 rs2 imm && ((nmB.getD op.toNat [] == [97, 100, 100]) && (!(rd == 0) && ((rd == rs1) && !(rs2 == 0))))) := by
  cases hm : mayB op rd rs1 rs2 imm
  · simp [fitsB, hm]
  · by_cases ho : op = 28
    · subst ho
      have hs : nmB.getD (28 : Int).toNat [] = [97, 100, 100] := rfl
      have hf : formN 28 = 8 := rfl
      rw [hs]
      have hm2 := hm
      simp only [mayB, hf] at hm2
      simp [regB, needD, needS, needT, numB] at hm2
      rw [Bool.eq_iff_iff]
      simp [fitsB, hm, kindB, fewB, fromB]
      try omega
    · have hs : (nmB.getD op.toNat [] == [97, 100, 100]) = false := nm_ne op rd rs1 rs2 imm 28 [97, 100, 100] hm ho (by decide)
      simp only [fitsB, hm]
      simp only [hs]
      simp [ho]

theorem fit_26 (op rd rs1 rs2 imm : Int) : fitsB (⟨[99, 46, 115, 119, 115, 112], 18, 0, 2, 3, 0, 252, 4, 0, [49, 49, 48, 102, 101, 100, 99, 104, 103, 84, 84, 84, 84, 84, 49, 48]⟩ : PR) op rd rs1 rs2 imm = (mayB op rd rs1 rs2 imm && ((nmB.getD op.toNat [] == [115, 119]) && ((rs1 == 2) && fromB imm 4 0 252))) := by
  cases hm : mayB op rd rs1 rs2 imm
  · simp [fitsB, hm]
  · by_cases ho : op = 18
    · subst ho
      have hs : nmB.getD (18 : Int).toNat [] = [115, 119] := rfl
      have hf : formN 18 = 5 := rfl
      rw [hs]
      have hm2 := hm
      simp only [mayB, hf] at hm2
      simp [regB, needD, needS, needT, numB] at hm2
      rw [Bool.eq_iff_iff]
      simp [fitsB, hm, kindB, fewB, fromB]
      try omega
    · have hs : (nmB.getD op.toNat [] == [115, 119]) = false := nm_ne op rd rs1 rs2 imm 18 [115, 119] hm ho (by decide)
      simp only [fitsB, hm]
      simp only [hs]
      simp [ho]

end Go.Proofs.Ytppnmaklggkogaa

/- Plain: sixteen bits that add up to a parcel are its bits. -/
namespace Go.Proofs.Ytppnmaklggkogaa
open Go.RowKit
set_option linter.unusedVariables false
set_option linter.unusedSimpArgs false

theorem bits16 (x a0 a1 a2 a3 a4 a5 a6 a7 a8 a9 a10 a11 a12 a13 a14 a15 : Int) (h0 : 0 ≤ a0 ∧ a0 ≤ 1) (h1 : 0 ≤ a1 ∧ a1 ≤ 1) (h2 : 0 ≤ a2 ∧ a2 ≤ 1) (h3 : 0 ≤ a3 ∧ a3 ≤ 1) (h4 : 0 ≤ a4 ∧ a4 ≤ 1) (h5 : 0 ≤ a5 ∧ a5 ≤ 1) (h6 : 0 ≤ a6 ∧ a6 ≤ 1) (h7 : 0 ≤ a7 ∧ a7 ≤ 1)
    (h8 : 0 ≤ a8 ∧ a8 ≤ 1) (h9 : 0 ≤ a9 ∧ a9 ≤ 1) (h10 : 0 ≤ a10 ∧ a10 ≤ 1) (h11 : 0 ≤ a11 ∧ a11 ≤ 1) (h12 : 0 ≤ a12 ∧ a12 ≤ 1) (h13 : 0 ≤ a13 ∧ a13 ≤ 1) (h14 : 0 ≤ a14 ∧ a14 ≤ 1) (h15 : 0 ≤ a15 ∧ a15 ≤ 1)
    (hx : x = a0 + 2 * a1 + 4 * a2 + 8 * a3 + 16 * a4 + 32 * a5 + 64 * a6 + 128 * a7 + 256 * a8 + 512 * a9 + 1024 * a10 + 2048 * a11 + 4096 * a12 + 8192 * a13 + 16384 * a14 + 32768 * a15) :
    expI x = expB a0 a1 a2 a3 a4 a5 a6 a7 a8 a9 a10 a11 a12 a13 a14 a15 ∧ dgN x = dgB a0 a1 a2 a3 a4 a5 a6 a7 a8 a9 a10 a11 a12 a13 a14 a15 := by
  have e : ∀ k, bt x k = x / 2 ^ k % 2 := fun k => by unfold bt fld; simp
  have e0 : bt x 0 = a0 := by rw [e]; omega
  have e1 : bt x 1 = a1 := by rw [e]; omega
  have e2 : bt x 2 = a2 := by rw [e]; omega
  have e3 : bt x 3 = a3 := by rw [e]; omega
  have e4 : bt x 4 = a4 := by rw [e]; omega
  have e5 : bt x 5 = a5 := by rw [e]; omega
  have e6 : bt x 6 = a6 := by rw [e]; omega
  have e7 : bt x 7 = a7 := by rw [e]; omega
  have e8 : bt x 8 = a8 := by rw [e]; omega
  have e9 : bt x 9 = a9 := by rw [e]; omega
  have e10 : bt x 10 = a10 := by rw [e]; omega
  have e11 : bt x 11 = a11 := by rw [e]; omega
  have e12 : bt x 12 = a12 := by rw [e]; omega
  have e13 : bt x 13 = a13 := by rw [e]; omega
  have e14 : bt x 14 = a14 := by rw [e]; omega
  have e15 : bt x 15 = a15 := by rw [e]; omega
  rw [expI_bits, dgN_bits x (by omega) (by omega), e0, e1, e2, e3, e4, e5, e6, e7, e8, e9, e10, e11, e12, e13, e14, e15]
  exact ⟨rfl, rfl⟩

theorem fld_at (v : Int) (k : Nat) (h : k < 32) : fld (v % 4294967296) k 1 = v / 2 ^ k % 2 := by
  unfold fld
  rw [Int.pow_one]
  have e : (4294967296 : Int) = 2 ^ k * (2 * 2 ^ (31 - k)) := by
    rw [← Int.pow_succ', ← Int.pow_add]
    have : k + (31 - k + 1) = 32 := by omega
    rw [this]; decide
  have h1 : v % 4294967296 = v - 4294967296 * (v / 4294967296) := Int.emod_def v _
  have h2 : v % 4294967296 / 2 ^ k = v / 2 ^ k - 2 * 2 ^ (31 - k) * (v / 4294967296) := by
    rw [h1]
    have e3 : v - 4294967296 * (v / 4294967296) = v + 2 ^ k * (-(2 * 2 ^ (31 - k) * (v / 4294967296))) := by
      rw [Int.mul_neg, ← Int.mul_assoc, ← e]; omega
    rw [e3, Int.add_mul_ediv_left _ _ (Int.ne_of_gt (pow_pos' k))]
    omega
  rw [h2, Int.mul_assoc]
  omega

theorem half2 (v d e : Int) (he : e = d * 2) (hd : 0 < d) : v / d = 2 * (v / e) + v / d % 2 := by
  subst he
  rw [← Int.ediv_ediv_of_nonneg (by omega)]
  omega

theorem bit2 (v d : Int) : 0 ≤ v / d % 2 ∧ v / d % 2 ≤ 1 := by omega

theorem chk_bn (h : Int) (k : Nat) (v : Nat) (hb : (bn h k == v) = true) : bt h k = v := by
  have : bn h k = v := by simpa using hb
  show fld h k 1 = v
  rw [bn_fld, this]

theorem bn_bt (h : Int) (k : Nat) : ((bn h k : Nat) : Int) = bt h k := (bn_fld h k).symm

theorem may_regs' (op rd rs1 rs2 imm : Int) (h : mayB op rd rs1 rs2 imm = true) : (0 ≤ rd ∧ rd ≤ 31) ∧ (0 ≤ rs1 ∧ rs1 ≤ 31) ∧ (0 ≤ rs2 ∧ rs2 ≤ 31) := by
  have g : ∀ n b, regB n b = true → 0 ≤ n ∧ n ≤ 31 := by
    intro n b hb
    unfold regB at hb
    split at hb
    · simpa using hb
    · have : n = 0 := by simpa using hb
      omega
  unfold mayB at h
  simp only [Bool.and_eq_true] at h
  exact ⟨g _ _ h.2.1, g _ _ h.2.2.1, g _ _ h.2.2.2.1⟩

end Go.Proofs.Ytppnmaklggkogaa

