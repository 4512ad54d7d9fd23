/- Plain: an instruction's word is decoded as the instruction. -/
import Derived.Test.YtpaadeiopflfgaaDoorDece
namespace Go.Proofs.YtpaadeiopflfgaaDoor
open Go.RowKit
set_option linter.unusedVariables false
set_option linter.unusedSimpArgs false

theorem may_parts (op rd rs1 rs2 imm f : Int) (hf : formN op = f) (h : mayB op rd rs1 rs2 imm = true) : regB rd (needD f) = true ∧ regB rs1 (needS f) = true ∧ regB rs2 (needT f) = true ∧ numB f imm = true := by
  simp only [mayB, Bool.and_eq_true, hf] at h
  exact ⟨h.2.1, h.2.2.1, h.2.2.2.1, h.2.2.2.2⟩

theorem reg_yes {n : Int} (h : regB n true = true) : 0 ≤ n ∧ n ≤ 31 := by simpa [regB] using h

theorem reg_no {n : Int} (h : regB n false = true) : n = 0 := by simpa [regB] using h

theorem fit_range (v : Int) (b : Nat) (h : fitB v b = true) : -(2 ^ b) ≤ 2 * v ∧ 2 * v < 2 ^ b := by
  have h1 : sgn (v % 4294967296) b = v := by simpa [fitB] using h
  have h2 := sgn_range (v % 4294967296) b
  rw [h1] at h2; exact h2

theorem num_1 {v : Int} (h : numB 1 v = true) : v % 4096 = 0 := by simpa [numB] using h

theorem num_2 {v : Int} (h : numB 2 v = true) : v % 2 = 0 ∧ -1048576 ≤ v ∧ v < 1048576 := by
  have h1 : (v % 2 == 0 && fitB v 21) = true := by simpa [numB] using h
  rw [Bool.and_eq_true] at h1
  have h2 := fit_range v 21 h1.2
  rw [p21] at h2
  have h3 : v % 2 = 0 := by simpa using h1.1
  omega

theorem num_3 {v : Int} (h : numB 3 v = true) : v % 2 = 0 ∧ -4096 ≤ v ∧ v < 4096 := by
  have h1 : (v % 2 == 0 && fitB v 13) = true := by simpa [numB] using h
  rw [Bool.and_eq_true] at h1
  have h2 := fit_range v 13 h1.2
  rw [p13] at h2
  have h3 : v % 2 = 0 := by simpa using h1.1
  omega

theorem num_12 {v : Int} (h : fitB v 12 = true) : -2048 ≤ v ∧ v < 2048 := by
  have h2 := fit_range v 12 h
  rw [p12] at h2
  omega

theorem num_4 {v : Int} (h : numB 4 v = true) : -2048 ≤ v ∧ v < 2048 := num_12 (by simpa [numB] using h)

theorem num_5 {v : Int} (h : numB 5 v = true) : -2048 ≤ v ∧ v < 2048 := num_12 (by simpa [numB] using h)

theorem num_6 {v : Int} (h : numB 6 v = true) : -2048 ≤ v ∧ v < 2048 := num_12 (by simpa [numB] using h)

theorem num_7 {v : Int} (h : numB 7 v = true) : 0 ≤ v ∧ v ≤ 31 := by simpa [numB] using h

theorem num_8 {v : Int} (h : numB 8 v = true) : v = 0 := by simpa [numB] using h

theorem num_9 {v : Int} (h : numB 9 v = true) : v = 0 := by simpa [numB] using h

theorem xU (o rd v x : Int) (ho : 0 ≤ o) (ho' : o < 128) (d1 : 0 ≤ rd) (d2 : rd ≤ 31) (hv : v % 4096 = 0) (b1 : -2147483648 ≤ v) (b2 : v ≤ 2147483647)
    (hx : x = o + rd * 128 + 0 * 32768 + 0 * 1048576 + fld v 12 20 * 4096) : x % 128 = o ∧ x / 128 % 32 = rd ∧ jU x = v := by
  have e1 : fld v 12 20 = v / 4096 % 1048576 := by simp [fld]
  rw [e1] at hx
  have h := jU_two x
  unfold vU at h
  refine ⟨by omega, by omega, by omega⟩

theorem xJ (rd v x : Int) (d1 : 0 ≤ rd) (d2 : rd ≤ 31) (hv : v % 2 = 0) (b1 : -1048576 ≤ v) (b2 : v < 1048576)
    (hx : x = 111 + rd * 128 + 0 * 32768 + 0 * 1048576 + (fld v 20 1 * 2147483648 + fld v 12 8 * 4096 + fld v 11 1 * 1048576 + fld v 1 10 * 2097152)) : x % 128 = 111 ∧ x / 128 % 32 = rd ∧ jJ x = v := by
  have e1 : fld v 20 1 = v / 1048576 % 2 := by simp [fld]
  have e2 : fld v 12 8 = v / 4096 % 256 := by simp [fld]
  have e3 : fld v 11 1 = v / 2048 % 2 := by simp [fld]
  have e4 : fld v 1 10 = v / 2 % 1024 := by simp [fld]
  rw [e1, e2, e3, e4] at hx
  have hs : v = 2 * (v / 2 % 1024) + 2048 * (v / 2048 % 2) + 4096 * (v / 4096 % 256) - 1048576 * (v / 1048576 % 2) := by omega
  have r1 : 0 ≤ v / 1048576 % 2 ∧ v / 1048576 % 2 < 2 := by omega
  have r2 : 0 ≤ v / 4096 % 256 ∧ v / 4096 % 256 < 256 := by omega
  have r3 : 0 ≤ v / 2048 % 2 ∧ v / 2048 % 2 < 2 := by omega
  have r4 : 0 ≤ v / 2 % 1024 ∧ v / 2 % 1024 < 1024 := by omega
  generalize v / 1048576 % 2 = a at *
  generalize v / 4096 % 256 = b at *
  generalize v / 2048 % 2 = c at *
  generalize v / 2 % 1024 = d at *
  clear e1 e2 e3 e4 hv
  have k1 : x / 2147483648 % 2 = a := by clear hs b1 b2; omega
  have k2 : x / 4096 % 256 = b := by clear hs b1 b2; omega
  have k3 : x / 1048576 % 2 = c := by clear hs b1 b2; omega
  have k4 : x / 2097152 % 1024 = d := by clear hs b1 b2; omega
  have h := jJ_two x
  unfold vJ at h
  rw [k1, k2, k3, k4] at h
  exact ⟨by clear hs b1 b2 h; omega, by clear hs b1 b2 h; omega, by omega⟩

theorem xB (f s t v x : Int) (f1 : 0 ≤ f) (f2 : f < 8) (s1 : 0 ≤ s) (s2 : s ≤ 31) (t1 : 0 ≤ t) (t2 : t ≤ 31) (hv : v % 2 = 0) (b1 : -4096 ≤ v) (b2 : v < 4096)
    (hx : x = 99 + f * 4096 + 0 * 128 + s * 32768 + t * 1048576 + (fld v 12 1 * 2147483648 + fld v 11 1 * 128 + fld v 5 6 * 33554432 + fld v 1 4 * 256)) : x % 128 = 99 ∧ x / 4096 % 8 = f ∧ x / 32768 % 32 = s ∧ x / 1048576 % 32 = t ∧ jB x = v := by
  have e1 : fld v 12 1 = v / 4096 % 2 := by simp [fld]
  have e2 : fld v 11 1 = v / 2048 % 2 := by simp [fld]
  have e3 : fld v 5 6 = v / 32 % 64 := by simp [fld]
  have e4 : fld v 1 4 = v / 2 % 16 := by simp [fld]
  rw [e1, e2, e3, e4] at hx
  have hs : v = 2 * (v / 2 % 16) + 32 * (v / 32 % 64) + 2048 * (v / 2048 % 2) - 4096 * (v / 4096 % 2) := by omega
  have r1 : 0 ≤ v / 4096 % 2 ∧ v / 4096 % 2 < 2 := by omega
  have r2 : 0 ≤ v / 2048 % 2 ∧ v / 2048 % 2 < 2 := by omega
  have r3 : 0 ≤ v / 32 % 64 ∧ v / 32 % 64 < 64 := by omega
  have r4 : 0 ≤ v / 2 % 16 ∧ v / 2 % 16 < 16 := by omega
  generalize v / 4096 % 2 = a at *
  generalize v / 2048 % 2 = b at *
  generalize v / 32 % 64 = c at *
  generalize v / 2 % 16 = d at *
  clear e1 e2 e3 e4 hv
  have k1 : x / 2147483648 % 2 = a := by clear hs b1 b2; omega
  have k2 : x / 128 % 2 = b := by clear hs b1 b2; omega
  have k3 : x / 33554432 % 64 = c := by clear hs b1 b2; omega
  have k4 : x / 256 % 16 = d := by clear hs b1 b2; omega
  have h := jB_two x
  unfold vB at h
  rw [k1, k2, k3, k4] at h
  exact ⟨by clear hs b1 b2 h; omega, by clear hs b1 b2 h; omega, by clear hs b1 b2 h; omega, by clear hs b1 b2 h; omega, by omega⟩

theorem xI (o f rd s v x : Int) (o1 : 0 ≤ o) (o2 : o < 128) (f1 : 0 ≤ f) (f2 : f < 8) (d1 : 0 ≤ rd) (d2 : rd ≤ 31) (s1 : 0 ≤ s) (s2 : s ≤ 31) (b1 : -2048 ≤ v) (b2 : v < 2048)
    (hx : x = o + f * 4096 + rd * 128 + s * 32768 + 0 * 1048576 + fld v 0 12 * 1048576) : x % 128 = o ∧ x / 4096 % 8 = f ∧ x / 128 % 32 = rd ∧ x / 32768 % 32 = s ∧ jI x = v := by
  rw [pI] at hx
  have h := jI_two x
  unfold vI at h
  have r1 : 0 ≤ v % 4096 ∧ v % 4096 < 4096 := by omega
  have r2 : v = v % 4096 ∨ v = v % 4096 - 4096 := by omega
  have r3 : v % 4096 < 2048 ∨ v < 0 := by omega
  generalize v % 4096 = a at *
  have k1 : x / 1048576 % 4096 = a := by clear r2 r3 b1 b2 h; omega
  rw [k1] at h
  exact ⟨by clear r2 r3 b1 b2 h; omega, by clear r2 r3 b1 b2 h; omega, by clear r2 r3 b1 b2 h; omega, by clear r2 r3 b1 b2 h; omega, by omega⟩

theorem xS (f s t v x : Int) (f1 : 0 ≤ f) (f2 : f < 8) (s1 : 0 ≤ s) (s2 : s ≤ 31) (t1 : 0 ≤ t) (t2 : t ≤ 31) (b1 : -2048 ≤ v) (b2 : v < 2048)
    (hx : x = 35 + f * 4096 + 0 * 128 + s * 32768 + t * 1048576 + (fld v 5 7 * 33554432 + fld v 0 5 * 128)) : x % 128 = 35 ∧ x / 4096 % 8 = f ∧ x / 32768 % 32 = s ∧ x / 1048576 % 32 = t ∧ jS x = v := by
  have e1 : fld v 5 7 = v / 32 % 128 := by simp [fld]
  have e2 : fld v 0 5 = v % 32 := by simp [fld]
  rw [e1, e2] at hx
  have hs : (v = v % 32 + 32 * (v / 32 % 128) ∧ v / 32 % 128 < 64) ∨ (v = v % 32 + 32 * (v / 32 % 128) - 4096 ∧ 64 ≤ v / 32 % 128) := by omega
  have r1 : 0 ≤ v / 32 % 128 ∧ v / 32 % 128 < 128 := by omega
  have r2 : 0 ≤ v % 32 ∧ v % 32 < 32 := by omega
  generalize v / 32 % 128 = a at *
  generalize v % 32 = b at *
  clear e1 e2
  have k1 : x / 33554432 % 128 = a := by clear hs b1 b2; omega
  have k2 : x / 128 % 32 = b := by clear hs b1 b2; omega
  have h := jS_two x
  unfold vS at h
  rw [k1, k2] at h
  exact ⟨by clear hs b1 b2 h; omega, by clear hs b1 b2 h; omega, by clear hs b1 b2 h; omega, by clear hs b1 b2 h; omega, by omega⟩

theorem xR (o f g rd s t x : Int) (o1 : 0 ≤ o) (o2 : o < 128) (f1 : 0 ≤ f) (f2 : f < 8) (g1 : 0 ≤ g) (g2 : g < 128) (d1 : 0 ≤ rd) (d2 : rd ≤ 31) (s1 : 0 ≤ s) (s2 : s ≤ 31) (t1 : 0 ≤ t) (t2 : t ≤ 31)
    (hx : x = o + f * 4096 + g * 33554432 + rd * 128 + s * 32768 + t * 1048576) : x % 128 = o ∧ x / 4096 % 8 = f ∧ x / 33554432 % 128 = g ∧ x / 128 % 32 = rd ∧ x / 32768 % 32 = s ∧ x / 1048576 % 32 = t := by
  exact ⟨by omega, by omega, by omega, by omega, by omega, by omega⟩

theorem de_1 (rd rs1 rs2 v : Int) (h : mayB 1 rd rs1 rs2 v = true) (b1 : -2147483648 ≤ v) (b2 : v ≤ 2147483647) : decP (enc5 ⟨1, rd, rs1, rs2, v⟩) = ⟨1, rd, rs1, rs2, v⟩ := by
  obtain ⟨hd, hs, ht, hn⟩ := may_parts 1 rd rs1 rs2 v 1 rfl h
  obtain ⟨d1, d2⟩ := reg_yes hd
  obtain rfl := reg_no hs
  obtain rfl := reg_no ht
  have n1 := num_1 hn
  have e : enc5 ⟨1, rd, 0, 0, v⟩ = 55 + rd * 128 + 0 * 32768 + 0 * 1048576 + putImm 1 v := rfl
  rw [e]
  obtain ⟨k1, k2, k3⟩ := xU 55 rd v _ (by decide) (by decide) d1 d2 n1 b1 b2 rfl
  rw [show putImm 1 v = fld v 12 20 * 4096 from rfl]
  generalize 55 + rd * 128 + 0 * 32768 + 0 * 1048576 + fld v 12 20 * 4096 = x at *
  simp [decP, k1, k2, k3]

theorem de_2 (rd rs1 rs2 v : Int) (h : mayB 2 rd rs1 rs2 v = true) (b1 : -2147483648 ≤ v) (b2 : v ≤ 2147483647) : decP (enc5 ⟨2, rd, rs1, rs2, v⟩) = ⟨2, rd, rs1, rs2, v⟩ := by
  obtain ⟨hd, hs, ht, hn⟩ := may_parts 2 rd rs1 rs2 v 1 rfl h
  obtain ⟨d1, d2⟩ := reg_yes hd
  obtain rfl := reg_no hs
  obtain rfl := reg_no ht
  have n1 := num_1 hn
  have e : enc5 ⟨2, rd, 0, 0, v⟩ = 23 + rd * 128 + 0 * 32768 + 0 * 1048576 + putImm 1 v := rfl
  rw [e]
  obtain ⟨k1, k2, k3⟩ := xU 23 rd v _ (by decide) (by decide) d1 d2 n1 b1 b2 rfl
  rw [show putImm 1 v = fld v 12 20 * 4096 from rfl]
  generalize 23 + rd * 128 + 0 * 32768 + 0 * 1048576 + fld v 12 20 * 4096 = x at *
  simp [decP, k1, k2, k3]

theorem de_3 (rd rs1 rs2 v : Int) (h : mayB 3 rd rs1 rs2 v = true) (b1 : -2147483648 ≤ v) (b2 : v ≤ 2147483647) : decP (enc5 ⟨3, rd, rs1, rs2, v⟩) = ⟨3, rd, rs1, rs2, v⟩ := by
  obtain ⟨hd, hs, ht, hn⟩ := may_parts 3 rd rs1 rs2 v 2 rfl h
  obtain ⟨d1, d2⟩ := reg_yes hd
  obtain rfl := reg_no hs
  obtain rfl := reg_no ht
  have n1 := num_2 hn
  have e : enc5 ⟨3, rd, 0, 0, v⟩ = 111 + rd * 128 + 0 * 32768 + 0 * 1048576 + putImm 2 v := rfl
  rw [e]
  obtain ⟨k1, k2, k3⟩ := xJ rd v _ d1 d2 n1.1 n1.2.1 n1.2.2 rfl
  rw [show putImm 2 v = fld v 20 1 * 2147483648 + fld v 12 8 * 4096 + fld v 11 1 * 1048576 + fld v 1 10 * 2097152 from rfl]
  generalize 111 + rd * 128 + 0 * 32768 + 0 * 1048576 + (fld v 20 1 * 2147483648 + fld v 12 8 * 4096 + fld v 11 1 * 1048576 + fld v 1 10 * 2097152) = x at *
  simp [decP, k1, k2, k3]

theorem de_4 (rd rs1 rs2 v : Int) (h : mayB 4 rd rs1 rs2 v = true) (b1 : -2147483648 ≤ v) (b2 : v ≤ 2147483647) : decP (enc5 ⟨4, rd, rs1, rs2, v⟩) = ⟨4, rd, rs1, rs2, v⟩ := by
  obtain ⟨hd, hs, ht, hn⟩ := may_parts 4 rd rs1 rs2 v 4 rfl h
  obtain ⟨d1, d2⟩ := reg_yes hd
  obtain ⟨s1, s2⟩ := reg_yes hs
  obtain rfl := reg_no ht
  have n1 := num_4 hn
  have e : enc5 ⟨4, rd, rs1, 0, v⟩ = 103 + rd * 128 + rs1 * 32768 + 0 * 1048576 + putImm 4 v := rfl
  rw [e]
  rw [show putImm 4 v = fld v 0 12 * 1048576 from rfl]
  obtain ⟨k1, k2, k3, k4, k5⟩ := xI 103 0 rd rs1 v (103 + rd * 128 + rs1 * 32768 + 0 * 1048576 + fld v 0 12 * 1048576) (by decide) (by decide) (by decide) (by decide) d1 d2 s1 s2 n1.1 n1.2 (by omega)
  generalize 103 + rd * 128 + rs1 * 32768 + 0 * 1048576 + fld v 0 12 * 1048576 = x at *
  simp [decP, k1, k2, k3, k4, k5, brOp, stOp, reOp, ldOp, nuOp, shOp, plOp, rgOp, baOp]

theorem de_5 (rd rs1 rs2 v : Int) (h : mayB 5 rd rs1 rs2 v = true) (b1 : -2147483648 ≤ v) (b2 : v ≤ 2147483647) : decP (enc5 ⟨5, rd, rs1, rs2, v⟩) = ⟨5, rd, rs1, rs2, v⟩ := by
  obtain ⟨hd, hs, ht, hn⟩ := may_parts 5 rd rs1 rs2 v 3 rfl h
  obtain rfl := reg_no hd
  obtain ⟨s1, s2⟩ := reg_yes hs
  obtain ⟨t1, t2⟩ := reg_yes ht
  have n1 := num_3 hn
  have e : enc5 ⟨5, 0, rs1, rs2, v⟩ = 99 + 0 * 128 + rs1 * 32768 + rs2 * 1048576 + putImm 3 v := rfl
  rw [e]
  rw [show putImm 3 v = fld v 12 1 * 2147483648 + fld v 11 1 * 128 + fld v 5 6 * 33554432 + fld v 1 4 * 256 from rfl]
  obtain ⟨k1, k2, k3, k4, k5⟩ := xB 0 rs1 rs2 v (99 + 0 * 128 + rs1 * 32768 + rs2 * 1048576 + (fld v 12 1 * 2147483648 + fld v 11 1 * 128 + fld v 5 6 * 33554432 + fld v 1 4 * 256)) (by decide) (by decide) s1 s2 t1 t2 n1.1 n1.2.1 n1.2.2 (by omega)
  generalize 99 + 0 * 128 + rs1 * 32768 + rs2 * 1048576 + (fld v 12 1 * 2147483648 + fld v 11 1 * 128 + fld v 5 6 * 33554432 + fld v 1 4 * 256) = x at *
  simp [decP, k1, k2, k3, k4, k5, brOp, stOp, reOp, ldOp, nuOp, shOp, plOp, rgOp, baOp]

theorem de_6 (rd rs1 rs2 v : Int) (h : mayB 6 rd rs1 rs2 v = true) (b1 : -2147483648 ≤ v) (b2 : v ≤ 2147483647) : decP (enc5 ⟨6, rd, rs1, rs2, v⟩) = ⟨6, rd, rs1, rs2, v⟩ := by
  obtain ⟨hd, hs, ht, hn⟩ := may_parts 6 rd rs1 rs2 v 3 rfl h
  obtain rfl := reg_no hd
  obtain ⟨s1, s2⟩ := reg_yes hs
  obtain ⟨t1, t2⟩ := reg_yes ht
  have n1 := num_3 hn
  have e : enc5 ⟨6, 0, rs1, rs2, v⟩ = 4195 + 0 * 128 + rs1 * 32768 + rs2 * 1048576 + putImm 3 v := rfl
  rw [e]
  rw [show putImm 3 v = fld v 12 1 * 2147483648 + fld v 11 1 * 128 + fld v 5 6 * 33554432 + fld v 1 4 * 256 from rfl]
  obtain ⟨k1, k2, k3, k4, k5⟩ := xB 1 rs1 rs2 v (4195 + 0 * 128 + rs1 * 32768 + rs2 * 1048576 + (fld v 12 1 * 2147483648 + fld v 11 1 * 128 + fld v 5 6 * 33554432 + fld v 1 4 * 256)) (by decide) (by decide) s1 s2 t1 t2 n1.1 n1.2.1 n1.2.2 (by omega)
  generalize 4195 + 0 * 128 + rs1 * 32768 + rs2 * 1048576 + (fld v 12 1 * 2147483648 + fld v 11 1 * 128 + fld v 5 6 * 33554432 + fld v 1 4 * 256) = x at *
  simp [decP, k1, k2, k3, k4, k5, brOp, stOp, reOp, ldOp, nuOp, shOp, plOp, rgOp, baOp]

theorem de_7 (rd rs1 rs2 v : Int) (h : mayB 7 rd rs1 rs2 v = true) (b1 : -2147483648 ≤ v) (b2 : v ≤ 2147483647) : decP (enc5 ⟨7, rd, rs1, rs2, v⟩) = ⟨7, rd, rs1, rs2, v⟩ := by
  obtain ⟨hd, hs, ht, hn⟩ := may_parts 7 rd rs1 rs2 v 3 rfl h
  obtain rfl := reg_no hd
  obtain ⟨s1, s2⟩ := reg_yes hs
  obtain ⟨t1, t2⟩ := reg_yes ht
  have n1 := num_3 hn
  have e : enc5 ⟨7, 0, rs1, rs2, v⟩ = 16483 + 0 * 128 + rs1 * 32768 + rs2 * 1048576 + putImm 3 v := rfl
  rw [e]
  rw [show putImm 3 v = fld v 12 1 * 2147483648 + fld v 11 1 * 128 + fld v 5 6 * 33554432 + fld v 1 4 * 256 from rfl]
  obtain ⟨k1, k2, k3, k4, k5⟩ := xB 4 rs1 rs2 v (16483 + 0 * 128 + rs1 * 32768 + rs2 * 1048576 + (fld v 12 1 * 2147483648 + fld v 11 1 * 128 + fld v 5 6 * 33554432 + fld v 1 4 * 256)) (by decide) (by decide) s1 s2 t1 t2 n1.1 n1.2.1 n1.2.2 (by omega)
  generalize 16483 + 0 * 128 + rs1 * 32768 + rs2 * 1048576 + (fld v 12 1 * 2147483648 + fld v 11 1 * 128 + fld v 5 6 * 33554432 + fld v 1 4 * 256) = x at *
  simp [decP, k1, k2, k3, k4, k5, brOp, stOp, reOp, ldOp, nuOp, shOp, plOp, rgOp, baOp]

theorem de_8 (rd rs1 rs2 v : Int) (h : mayB 8 rd rs1 rs2 v = true) (b1 : -2147483648 ≤ v) (b2 : v ≤ 2147483647) : decP (enc5 ⟨8, rd, rs1, rs2, v⟩) = ⟨8, rd, rs1, rs2, v⟩ := by
  obtain ⟨hd, hs, ht, hn⟩ := may_parts 8 rd rs1 rs2 v 3 rfl h
  obtain rfl := reg_no hd
  obtain ⟨s1, s2⟩ := reg_yes hs
  obtain ⟨t1, t2⟩ := reg_yes ht
  have n1 := num_3 hn
  have e : enc5 ⟨8, 0, rs1, rs2, v⟩ = 20579 + 0 * 128 + rs1 * 32768 + rs2 * 1048576 + putImm 3 v := rfl
  rw [e]
  rw [show putImm 3 v = fld v 12 1 * 2147483648 + fld v 11 1 * 128 + fld v 5 6 * 33554432 + fld v 1 4 * 256 from rfl]
  obtain ⟨k1, k2, k3, k4, k5⟩ := xB 5 rs1 rs2 v (20579 + 0 * 128 + rs1 * 32768 + rs2 * 1048576 + (fld v 12 1 * 2147483648 + fld v 11 1 * 128 + fld v 5 6 * 33554432 + fld v 1 4 * 256)) (by decide) (by decide) s1 s2 t1 t2 n1.1 n1.2.1 n1.2.2 (by omega)
  generalize 20579 + 0 * 128 + rs1 * 32768 + rs2 * 1048576 + (fld v 12 1 * 2147483648 + fld v 11 1 * 128 + fld v 5 6 * 33554432 + fld v 1 4 * 256) = x at *
  simp [decP, k1, k2, k3, k4, k5, brOp, stOp, reOp, ldOp, nuOp, shOp, plOp, rgOp, baOp]

theorem de_9 (rd rs1 rs2 v : Int) (h : mayB 9 rd rs1 rs2 v = true) (b1 : -2147483648 ≤ v) (b2 : v ≤ 2147483647) : decP (enc5 ⟨9, rd, rs1, rs2, v⟩) = ⟨9, rd, rs1, rs2, v⟩ := by
  obtain ⟨hd, hs, ht, hn⟩ := may_parts 9 rd rs1 rs2 v 3 rfl h
  obtain rfl := reg_no hd
  obtain ⟨s1, s2⟩ := reg_yes hs
  obtain ⟨t1, t2⟩ := reg_yes ht
  have n1 := num_3 hn
  have e : enc5 ⟨9, 0, rs1, rs2, v⟩ = 24675 + 0 * 128 + rs1 * 32768 + rs2 * 1048576 + putImm 3 v := rfl
  rw [e]
  rw [show putImm 3 v = fld v 12 1 * 2147483648 + fld v 11 1 * 128 + fld v 5 6 * 33554432 + fld v 1 4 * 256 from rfl]
  obtain ⟨k1, k2, k3, k4, k5⟩ := xB 6 rs1 rs2 v (24675 + 0 * 128 + rs1 * 32768 + rs2 * 1048576 + (fld v 12 1 * 2147483648 + fld v 11 1 * 128 + fld v 5 6 * 33554432 + fld v 1 4 * 256)) (by decide) (by decide) s1 s2 t1 t2 n1.1 n1.2.1 n1.2.2 (by omega)
  generalize 24675 + 0 * 128 + rs1 * 32768 + rs2 * 1048576 + (fld v 12 1 * 2147483648 + fld v 11 1 * 128 + fld v 5 6 * 33554432 + fld v 1 4 * 256) = x at *
  simp [decP, k1, k2, k3, k4, k5, brOp, stOp, reOp, ldOp, nuOp, shOp, plOp, rgOp, baOp]

theorem de_10 (rd rs1 rs2 v : Int) (h : mayB 10 rd rs1 rs2 v = true) (b1 : -2147483648 ≤ v) (b2 : v ≤ 2147483647) : decP (enc5 ⟨10, rd, rs1, rs2, v⟩) = ⟨10, rd, rs1, rs2, v⟩ := by
  obtain ⟨hd, hs, ht, hn⟩ := may_parts 10 rd rs1 rs2 v 3 rfl h
  obtain rfl := reg_no hd
  obtain ⟨s1, s2⟩ := reg_yes hs
  obtain ⟨t1, t2⟩ := reg_yes ht
  have n1 := num_3 hn
  have e : enc5 ⟨10, 0, rs1, rs2, v⟩ = 28771 + 0 * 128 + rs1 * 32768 + rs2 * 1048576 + putImm 3 v := rfl
  rw [e]
  rw [show putImm 3 v = fld v 12 1 * 2147483648 + fld v 11 1 * 128 + fld v 5 6 * 33554432 + fld v 1 4 * 256 from rfl]
  obtain ⟨k1, k2, k3, k4, k5⟩ := xB 7 rs1 rs2 v (28771 + 0 * 128 + rs1 * 32768 + rs2 * 1048576 + (fld v 12 1 * 2147483648 + fld v 11 1 * 128 + fld v 5 6 * 33554432 + fld v 1 4 * 256)) (by decide) (by decide) s1 s2 t1 t2 n1.1 n1.2.1 n1.2.2 (by omega)
  generalize 28771 + 0 * 128 + rs1 * 32768 + rs2 * 1048576 + (fld v 12 1 * 2147483648 + fld v 11 1 * 128 + fld v 5 6 * 33554432 + fld v 1 4 * 256) = x at *
  simp [decP, k1, k2, k3, k4, k5, brOp, stOp, reOp, ldOp, nuOp, shOp, plOp, rgOp, baOp]

theorem de_11 (rd rs1 rs2 v : Int) (h : mayB 11 rd rs1 rs2 v = true) (b1 : -2147483648 ≤ v) (b2 : v ≤ 2147483647) : decP (enc5 ⟨11, rd, rs1, rs2, v⟩) = ⟨11, rd, rs1, rs2, v⟩ := by
  obtain ⟨hd, hs, ht, hn⟩ := may_parts 11 rd rs1 rs2 v 4 rfl h
  obtain ⟨d1, d2⟩ := reg_yes hd
  obtain ⟨s1, s2⟩ := reg_yes hs
  obtain rfl := reg_no ht
  have n1 := num_4 hn
  have e : enc5 ⟨11, rd, rs1, 0, v⟩ = 3 + rd * 128 + rs1 * 32768 + 0 * 1048576 + putImm 4 v := rfl
  rw [e]
  rw [show putImm 4 v = fld v 0 12 * 1048576 from rfl]
  obtain ⟨k1, k2, k3, k4, k5⟩ := xI 3 0 rd rs1 v (3 + rd * 128 + rs1 * 32768 + 0 * 1048576 + fld v 0 12 * 1048576) (by decide) (by decide) (by decide) (by decide) d1 d2 s1 s2 n1.1 n1.2 (by omega)
  generalize 3 + rd * 128 + rs1 * 32768 + 0 * 1048576 + fld v 0 12 * 1048576 = x at *
  simp [decP, k1, k2, k3, k4, k5, brOp, stOp, reOp, ldOp, nuOp, shOp, plOp, rgOp, baOp]

theorem de_12 (rd rs1 rs2 v : Int) (h : mayB 12 rd rs1 rs2 v = true) (b1 : -2147483648 ≤ v) (b2 : v ≤ 2147483647) : decP (enc5 ⟨12, rd, rs1, rs2, v⟩) = ⟨12, rd, rs1, rs2, v⟩ := by
  obtain ⟨hd, hs, ht, hn⟩ := may_parts 12 rd rs1 rs2 v 4 rfl h
  obtain ⟨d1, d2⟩ := reg_yes hd
  obtain ⟨s1, s2⟩ := reg_yes hs
  obtain rfl := reg_no ht
  have n1 := num_4 hn
  have e : enc5 ⟨12, rd, rs1, 0, v⟩ = 4099 + rd * 128 + rs1 * 32768 + 0 * 1048576 + putImm 4 v := rfl
  rw [e]
  rw [show putImm 4 v = fld v 0 12 * 1048576 from rfl]
  obtain ⟨k1, k2, k3, k4, k5⟩ := xI 3 1 rd rs1 v (4099 + rd * 128 + rs1 * 32768 + 0 * 1048576 + fld v 0 12 * 1048576) (by decide) (by decide) (by decide) (by decide) d1 d2 s1 s2 n1.1 n1.2 (by omega)
  generalize 4099 + rd * 128 + rs1 * 32768 + 0 * 1048576 + fld v 0 12 * 1048576 = x at *
  simp [decP, k1, k2, k3, k4, k5, brOp, stOp, reOp, ldOp, nuOp, shOp, plOp, rgOp, baOp]

theorem de_13 (rd rs1 rs2 v : Int) (h : mayB 13 rd rs1 rs2 v = true) (b1 : -2147483648 ≤ v) (b2 : v ≤ 2147483647) : decP (enc5 ⟨13, rd, rs1, rs2, v⟩) = ⟨13, rd, rs1, rs2, v⟩ := by
  obtain ⟨hd, hs, ht, hn⟩ := may_parts 13 rd rs1 rs2 v 4 rfl h
  obtain ⟨d1, d2⟩ := reg_yes hd
  obtain ⟨s1, s2⟩ := reg_yes hs
  obtain rfl := reg_no ht
  have n1 := num_4 hn
  have e : enc5 ⟨13, rd, rs1, 0, v⟩ = 8195 + rd * 128 + rs1 * 32768 + 0 * 1048576 + putImm 4 v := rfl
  rw [e]
  rw [show putImm 4 v = fld v 0 12 * 1048576 from rfl]
  obtain ⟨k1, k2, k3, k4, k5⟩ := xI 3 2 rd rs1 v (8195 + rd * 128 + rs1 * 32768 + 0 * 1048576 + fld v 0 12 * 1048576) (by decide) (by decide) (by decide) (by decide) d1 d2 s1 s2 n1.1 n1.2 (by omega)
  generalize 8195 + rd * 128 + rs1 * 32768 + 0 * 1048576 + fld v 0 12 * 1048576 = x at *
  simp [decP, k1, k2, k3, k4, k5, brOp, stOp, reOp, ldOp, nuOp, shOp, plOp, rgOp, baOp]

theorem de_14 (rd rs1 rs2 v : Int) (h : mayB 14 rd rs1 rs2 v = true) (b1 : -2147483648 ≤ v) (b2 : v ≤ 2147483647) : decP (enc5 ⟨14, rd, rs1, rs2, v⟩) = ⟨14, rd, rs1, rs2, v⟩ := by
  obtain ⟨hd, hs, ht, hn⟩ := may_parts 14 rd rs1 rs2 v 4 rfl h
  obtain ⟨d1, d2⟩ := reg_yes hd
  obtain ⟨s1, s2⟩ := reg_yes hs
  obtain rfl := reg_no ht
  have n1 := num_4 hn
  have e : enc5 ⟨14, rd, rs1, 0, v⟩ = 16387 + rd * 128 + rs1 * 32768 + 0 * 1048576 + putImm 4 v := rfl
  rw [e]
  rw [show putImm 4 v = fld v 0 12 * 1048576 from rfl]
  obtain ⟨k1, k2, k3, k4, k5⟩ := xI 3 4 rd rs1 v (16387 + rd * 128 + rs1 * 32768 + 0 * 1048576 + fld v 0 12 * 1048576) (by decide) (by decide) (by decide) (by decide) d1 d2 s1 s2 n1.1 n1.2 (by omega)
  generalize 16387 + rd * 128 + rs1 * 32768 + 0 * 1048576 + fld v 0 12 * 1048576 = x at *
  simp [decP, k1, k2, k3, k4, k5, brOp, stOp, reOp, ldOp, nuOp, shOp, plOp, rgOp, baOp]

theorem de_15 (rd rs1 rs2 v : Int) (h : mayB 15 rd rs1 rs2 v = true) (b1 : -2147483648 ≤ v) (b2 : v ≤ 2147483647) : decP (enc5 ⟨15, rd, rs1, rs2, v⟩) = ⟨15, rd, rs1, rs2, v⟩ := by
  obtain ⟨hd, hs, ht, hn⟩ := may_parts 15 rd rs1 rs2 v 4 rfl h
  obtain ⟨d1, d2⟩ := reg_yes hd
  obtain ⟨s1, s2⟩ := reg_yes hs
  obtain rfl := reg_no ht
  have n1 := num_4 hn
  have e : enc5 ⟨15, rd, rs1, 0, v⟩ = 20483 + rd * 128 + rs1 * 32768 + 0 * 1048576 + putImm 4 v := rfl
  rw [e]
  rw [show putImm 4 v = fld v 0 12 * 1048576 from rfl]
  obtain ⟨k1, k2, k3, k4, k5⟩ := xI 3 5 rd rs1 v (20483 + rd * 128 + rs1 * 32768 + 0 * 1048576 + fld v 0 12 * 1048576) (by decide) (by decide) (by decide) (by decide) d1 d2 s1 s2 n1.1 n1.2 (by omega)
  generalize 20483 + rd * 128 + rs1 * 32768 + 0 * 1048576 + fld v 0 12 * 1048576 = x at *
  simp [decP, k1, k2, k3, k4, k5, brOp, stOp, reOp, ldOp, nuOp, shOp, plOp, rgOp, baOp]

theorem de_16 (rd rs1 rs2 v : Int) (h : mayB 16 rd rs1 rs2 v = true) (b1 : -2147483648 ≤ v) (b2 : v ≤ 2147483647) : decP (enc5 ⟨16, rd, rs1, rs2, v⟩) = ⟨16, rd, rs1, rs2, v⟩ := by
  obtain ⟨hd, hs, ht, hn⟩ := may_parts 16 rd rs1 rs2 v 5 rfl h
  obtain rfl := reg_no hd
  obtain ⟨s1, s2⟩ := reg_yes hs
  obtain ⟨t1, t2⟩ := reg_yes ht
  have n1 := num_5 hn
  have e : enc5 ⟨16, 0, rs1, rs2, v⟩ = 35 + 0 * 128 + rs1 * 32768 + rs2 * 1048576 + putImm 5 v := rfl
  rw [e]
  rw [show putImm 5 v = fld v 5 7 * 33554432 + fld v 0 5 * 128 from rfl]
  obtain ⟨k1, k2, k3, k4, k5⟩ := xS 0 rs1 rs2 v (35 + 0 * 128 + rs1 * 32768 + rs2 * 1048576 + (fld v 5 7 * 33554432 + fld v 0 5 * 128)) (by decide) (by decide) s1 s2 t1 t2 n1.1 n1.2 (by omega)
  generalize 35 + 0 * 128 + rs1 * 32768 + rs2 * 1048576 + (fld v 5 7 * 33554432 + fld v 0 5 * 128) = x at *
  simp [decP, k1, k2, k3, k4, k5, brOp, stOp, reOp, ldOp, nuOp, shOp, plOp, rgOp, baOp]

theorem de_17 (rd rs1 rs2 v : Int) (h : mayB 17 rd rs1 rs2 v = true) (b1 : -2147483648 ≤ v) (b2 : v ≤ 2147483647) : decP (enc5 ⟨17, rd, rs1, rs2, v⟩) = ⟨17, rd, rs1, rs2, v⟩ := by
  obtain ⟨hd, hs, ht, hn⟩ := may_parts 17 rd rs1 rs2 v 5 rfl h
  obtain rfl := reg_no hd
  obtain ⟨s1, s2⟩ := reg_yes hs
  obtain ⟨t1, t2⟩ := reg_yes ht
  have n1 := num_5 hn
  have e : enc5 ⟨17, 0, rs1, rs2, v⟩ = 4131 + 0 * 128 + rs1 * 32768 + rs2 * 1048576 + putImm 5 v := rfl
  rw [e]
  rw [show putImm 5 v = fld v 5 7 * 33554432 + fld v 0 5 * 128 from rfl]
  obtain ⟨k1, k2, k3, k4, k5⟩ := xS 1 rs1 rs2 v (4131 + 0 * 128 + rs1 * 32768 + rs2 * 1048576 + (fld v 5 7 * 33554432 + fld v 0 5 * 128)) (by decide) (by decide) s1 s2 t1 t2 n1.1 n1.2 (by omega)
  generalize 4131 + 0 * 128 + rs1 * 32768 + rs2 * 1048576 + (fld v 5 7 * 33554432 + fld v 0 5 * 128) = x at *
  simp [decP, k1, k2, k3, k4, k5, brOp, stOp, reOp, ldOp, nuOp, shOp, plOp, rgOp, baOp]

theorem de_18 (rd rs1 rs2 v : Int) (h : mayB 18 rd rs1 rs2 v = true) (b1 : -2147483648 ≤ v) (b2 : v ≤ 2147483647) : decP (enc5 ⟨18, rd, rs1, rs2, v⟩) = ⟨18, rd, rs1, rs2, v⟩ := by
  obtain ⟨hd, hs, ht, hn⟩ := may_parts 18 rd rs1 rs2 v 5 rfl h
  obtain rfl := reg_no hd
  obtain ⟨s1, s2⟩ := reg_yes hs
  obtain ⟨t1, t2⟩ := reg_yes ht
  have n1 := num_5 hn
  have e : enc5 ⟨18, 0, rs1, rs2, v⟩ = 8227 + 0 * 128 + rs1 * 32768 + rs2 * 1048576 + putImm 5 v := rfl
  rw [e]
  rw [show putImm 5 v = fld v 5 7 * 33554432 + fld v 0 5 * 128 from rfl]
  obtain ⟨k1, k2, k3, k4, k5⟩ := xS 2 rs1 rs2 v (8227 + 0 * 128 + rs1 * 32768 + rs2 * 1048576 + (fld v 5 7 * 33554432 + fld v 0 5 * 128)) (by decide) (by decide) s1 s2 t1 t2 n1.1 n1.2 (by omega)
  generalize 8227 + 0 * 128 + rs1 * 32768 + rs2 * 1048576 + (fld v 5 7 * 33554432 + fld v 0 5 * 128) = x at *
  simp [decP, k1, k2, k3, k4, k5, brOp, stOp, reOp, ldOp, nuOp, shOp, plOp, rgOp, baOp]

theorem de_19 (rd rs1 rs2 v : Int) (h : mayB 19 rd rs1 rs2 v = true) (b1 : -2147483648 ≤ v) (b2 : v ≤ 2147483647) : decP (enc5 ⟨19, rd, rs1, rs2, v⟩) = ⟨19, rd, rs1, rs2, v⟩ := by
  obtain ⟨hd, hs, ht, hn⟩ := may_parts 19 rd rs1 rs2 v 6 rfl h
  obtain ⟨d1, d2⟩ := reg_yes hd
  obtain ⟨s1, s2⟩ := reg_yes hs
  obtain rfl := reg_no ht
  have n1 := num_6 hn
  have e : enc5 ⟨19, rd, rs1, 0, v⟩ = 19 + rd * 128 + rs1 * 32768 + 0 * 1048576 + putImm 6 v := rfl
  rw [e]
  rw [show putImm 6 v = fld v 0 12 * 1048576 from rfl]
  obtain ⟨k1, k2, k3, k4, k5⟩ := xI 19 0 rd rs1 v (19 + rd * 128 + rs1 * 32768 + 0 * 1048576 + fld v 0 12 * 1048576) (by decide) (by decide) (by decide) (by decide) d1 d2 s1 s2 n1.1 n1.2 (by omega)
  generalize 19 + rd * 128 + rs1 * 32768 + 0 * 1048576 + fld v 0 12 * 1048576 = x at *
  simp [decP, k1, k2, k3, k4, k5, brOp, stOp, reOp, ldOp, nuOp, shOp, plOp, rgOp, baOp]

theorem de_20 (rd rs1 rs2 v : Int) (h : mayB 20 rd rs1 rs2 v = true) (b1 : -2147483648 ≤ v) (b2 : v ≤ 2147483647) : decP (enc5 ⟨20, rd, rs1, rs2, v⟩) = ⟨20, rd, rs1, rs2, v⟩ := by
  obtain ⟨hd, hs, ht, hn⟩ := may_parts 20 rd rs1 rs2 v 6 rfl h
  obtain ⟨d1, d2⟩ := reg_yes hd
  obtain ⟨s1, s2⟩ := reg_yes hs
  obtain rfl := reg_no ht
  have n1 := num_6 hn
  have e : enc5 ⟨20, rd, rs1, 0, v⟩ = 8211 + rd * 128 + rs1 * 32768 + 0 * 1048576 + putImm 6 v := rfl
  rw [e]
  rw [show putImm 6 v = fld v 0 12 * 1048576 from rfl]
  obtain ⟨k1, k2, k3, k4, k5⟩ := xI 19 2 rd rs1 v (8211 + rd * 128 + rs1 * 32768 + 0 * 1048576 + fld v 0 12 * 1048576) (by decide) (by decide) (by decide) (by decide) d1 d2 s1 s2 n1.1 n1.2 (by omega)
  generalize 8211 + rd * 128 + rs1 * 32768 + 0 * 1048576 + fld v 0 12 * 1048576 = x at *
  simp [decP, k1, k2, k3, k4, k5, brOp, stOp, reOp, ldOp, nuOp, shOp, plOp, rgOp, baOp]

theorem de_21 (rd rs1 rs2 v : Int) (h : mayB 21 rd rs1 rs2 v = true) (b1 : -2147483648 ≤ v) (b2 : v ≤ 2147483647) : decP (enc5 ⟨21, rd, rs1, rs2, v⟩) = ⟨21, rd, rs1, rs2, v⟩ := by
  obtain ⟨hd, hs, ht, hn⟩ := may_parts 21 rd rs1 rs2 v 6 rfl h
  obtain ⟨d1, d2⟩ := reg_yes hd
  obtain ⟨s1, s2⟩ := reg_yes hs
  obtain rfl := reg_no ht
  have n1 := num_6 hn
  have e : enc5 ⟨21, rd, rs1, 0, v⟩ = 12307 + rd * 128 + rs1 * 32768 + 0 * 1048576 + putImm 6 v := rfl
  rw [e]
  rw [show putImm 6 v = fld v 0 12 * 1048576 from rfl]
  obtain ⟨k1, k2, k3, k4, k5⟩ := xI 19 3 rd rs1 v (12307 + rd * 128 + rs1 * 32768 + 0 * 1048576 + fld v 0 12 * 1048576) (by decide) (by decide) (by decide) (by decide) d1 d2 s1 s2 n1.1 n1.2 (by omega)
  generalize 12307 + rd * 128 + rs1 * 32768 + 0 * 1048576 + fld v 0 12 * 1048576 = x at *
  simp [decP, k1, k2, k3, k4, k5, brOp, stOp, reOp, ldOp, nuOp, shOp, plOp, rgOp, baOp]

theorem de_22 (rd rs1 rs2 v : Int) (h : mayB 22 rd rs1 rs2 v = true) (b1 : -2147483648 ≤ v) (b2 : v ≤ 2147483647) : decP (enc5 ⟨22, rd, rs1, rs2, v⟩) = ⟨22, rd, rs1, rs2, v⟩ := by
  obtain ⟨hd, hs, ht, hn⟩ := may_parts 22 rd rs1 rs2 v 6 rfl h
  obtain ⟨d1, d2⟩ := reg_yes hd
  obtain ⟨s1, s2⟩ := reg_yes hs
  obtain rfl := reg_no ht
  have n1 := num_6 hn
  have e : enc5 ⟨22, rd, rs1, 0, v⟩ = 16403 + rd * 128 + rs1 * 32768 + 0 * 1048576 + putImm 6 v := rfl
  rw [e]
  rw [show putImm 6 v = fld v 0 12 * 1048576 from rfl]
  obtain ⟨k1, k2, k3, k4, k5⟩ := xI 19 4 rd rs1 v (16403 + rd * 128 + rs1 * 32768 + 0 * 1048576 + fld v 0 12 * 1048576) (by decide) (by decide) (by decide) (by decide) d1 d2 s1 s2 n1.1 n1.2 (by omega)
  generalize 16403 + rd * 128 + rs1 * 32768 + 0 * 1048576 + fld v 0 12 * 1048576 = x at *
  simp [decP, k1, k2, k3, k4, k5, brOp, stOp, reOp, ldOp, nuOp, shOp, plOp, rgOp, baOp]

theorem de_23 (rd rs1 rs2 v : Int) (h : mayB 23 rd rs1 rs2 v = true) (b1 : -2147483648 ≤ v) (b2 : v ≤ 2147483647) : decP (enc5 ⟨23, rd, rs1, rs2, v⟩) = ⟨23, rd, rs1, rs2, v⟩ := by
  obtain ⟨hd, hs, ht, hn⟩ := may_parts 23 rd rs1 rs2 v 6 rfl h
  obtain ⟨d1, d2⟩ := reg_yes hd
  obtain ⟨s1, s2⟩ := reg_yes hs
  obtain rfl := reg_no ht
  have n1 := num_6 hn
  have e : enc5 ⟨23, rd, rs1, 0, v⟩ = 24595 + rd * 128 + rs1 * 32768 + 0 * 1048576 + putImm 6 v := rfl
  rw [e]
  rw [show putImm 6 v = fld v 0 12 * 1048576 from rfl]
  obtain ⟨k1, k2, k3, k4, k5⟩ := xI 19 6 rd rs1 v (24595 + rd * 128 + rs1 * 32768 + 0 * 1048576 + fld v 0 12 * 1048576) (by decide) (by decide) (by decide) (by decide) d1 d2 s1 s2 n1.1 n1.2 (by omega)
  generalize 24595 + rd * 128 + rs1 * 32768 + 0 * 1048576 + fld v 0 12 * 1048576 = x at *
  simp [decP, k1, k2, k3, k4, k5, brOp, stOp, reOp, ldOp, nuOp, shOp, plOp, rgOp, baOp]

theorem de_24 (rd rs1 rs2 v : Int) (h : mayB 24 rd rs1 rs2 v = true) (b1 : -2147483648 ≤ v) (b2 : v ≤ 2147483647) : decP (enc5 ⟨24, rd, rs1, rs2, v⟩) = ⟨24, rd, rs1, rs2, v⟩ := by
  obtain ⟨hd, hs, ht, hn⟩ := may_parts 24 rd rs1 rs2 v 6 rfl h
  obtain ⟨d1, d2⟩ := reg_yes hd
  obtain ⟨s1, s2⟩ := reg_yes hs
  obtain rfl := reg_no ht
  have n1 := num_6 hn
  have e : enc5 ⟨24, rd, rs1, 0, v⟩ = 28691 + rd * 128 + rs1 * 32768 + 0 * 1048576 + putImm 6 v := rfl
  rw [e]
  rw [show putImm 6 v = fld v 0 12 * 1048576 from rfl]
  obtain ⟨k1, k2, k3, k4, k5⟩ := xI 19 7 rd rs1 v (28691 + rd * 128 + rs1 * 32768 + 0 * 1048576 + fld v 0 12 * 1048576) (by decide) (by decide) (by decide) (by decide) d1 d2 s1 s2 n1.1 n1.2 (by omega)
  generalize 28691 + rd * 128 + rs1 * 32768 + 0 * 1048576 + fld v 0 12 * 1048576 = x at *
  simp [decP, k1, k2, k3, k4, k5, brOp, stOp, reOp, ldOp, nuOp, shOp, plOp, rgOp, baOp]

theorem de_25 (rd rs1 rs2 v : Int) (h : mayB 25 rd rs1 rs2 v = true) (b1 : -2147483648 ≤ v) (b2 : v ≤ 2147483647) : decP (enc5 ⟨25, rd, rs1, rs2, v⟩) = ⟨25, rd, rs1, rs2, v⟩ := by
  obtain ⟨hd, hs, ht, hn⟩ := may_parts 25 rd rs1 rs2 v 7 rfl h
  obtain ⟨d1, d2⟩ := reg_yes hd
  obtain ⟨s1, s2⟩ := reg_yes hs
  obtain rfl := reg_no ht
  have n1 := num_7 hn
  have e : enc5 ⟨25, rd, rs1, 0, v⟩ = 4115 + rd * 128 + rs1 * 32768 + 0 * 1048576 + putImm 7 v := rfl
  rw [e]
  have q : fld v 0 5 = v := by have : fld v 0 5 = v % 32 := by simp [fld]
                               omega
  rw [show putImm 7 v = fld v 0 5 * 1048576 from rfl, q]
  obtain ⟨k1, k2, k3, k4, k5, k6⟩ := xR 19 1 0 rd rs1 v (4115 + rd * 128 + rs1 * 32768 + 0 * 1048576 + v * 1048576) (by decide) (by decide) (by decide) (by decide) (by decide) (by decide) d1 d2 s1 s2 n1.1 n1.2 (by omega)
  generalize 4115 + rd * 128 + rs1 * 32768 + 0 * 1048576 + v * 1048576 = x at *
  simp [decP, k1, k2, k3, k4, k5, k6, brOp, stOp, reOp, ldOp, nuOp, shOp, plOp, rgOp, baOp]

theorem de_26 (rd rs1 rs2 v : Int) (h : mayB 26 rd rs1 rs2 v = true) (b1 : -2147483648 ≤ v) (b2 : v ≤ 2147483647) : decP (enc5 ⟨26, rd, rs1, rs2, v⟩) = ⟨26, rd, rs1, rs2, v⟩ := by
  obtain ⟨hd, hs, ht, hn⟩ := may_parts 26 rd rs1 rs2 v 7 rfl h
  obtain ⟨d1, d2⟩ := reg_yes hd
  obtain ⟨s1, s2⟩ := reg_yes hs
  obtain rfl := reg_no ht
  have n1 := num_7 hn
  have e : enc5 ⟨26, rd, rs1, 0, v⟩ = 20499 + rd * 128 + rs1 * 32768 + 0 * 1048576 + putImm 7 v := rfl
  rw [e]
  have q : fld v 0 5 = v := by have : fld v 0 5 = v % 32 := by simp [fld]
                               omega
  rw [show putImm 7 v = fld v 0 5 * 1048576 from rfl, q]
  obtain ⟨k1, k2, k3, k4, k5, k6⟩ := xR 19 5 0 rd rs1 v (20499 + rd * 128 + rs1 * 32768 + 0 * 1048576 + v * 1048576) (by decide) (by decide) (by decide) (by decide) (by decide) (by decide) d1 d2 s1 s2 n1.1 n1.2 (by omega)
  generalize 20499 + rd * 128 + rs1 * 32768 + 0 * 1048576 + v * 1048576 = x at *
  simp [decP, k1, k2, k3, k4, k5, k6, brOp, stOp, reOp, ldOp, nuOp, shOp, plOp, rgOp, baOp]

theorem de_27 (rd rs1 rs2 v : Int) (h : mayB 27 rd rs1 rs2 v = true) (b1 : -2147483648 ≤ v) (b2 : v ≤ 2147483647) : decP (enc5 ⟨27, rd, rs1, rs2, v⟩) = ⟨27, rd, rs1, rs2, v⟩ := by
  obtain ⟨hd, hs, ht, hn⟩ := may_parts 27 rd rs1 rs2 v 7 rfl h
  obtain ⟨d1, d2⟩ := reg_yes hd
  obtain ⟨s1, s2⟩ := reg_yes hs
  obtain rfl := reg_no ht
  have n1 := num_7 hn
  have e : enc5 ⟨27, rd, rs1, 0, v⟩ = 1073762323 + rd * 128 + rs1 * 32768 + 0 * 1048576 + putImm 7 v := rfl
  rw [e]
  have q : fld v 0 5 = v := by have : fld v 0 5 = v % 32 := by simp [fld]
                               omega
  rw [show putImm 7 v = fld v 0 5 * 1048576 from rfl, q]
  obtain ⟨k1, k2, k3, k4, k5, k6⟩ := xR 19 5 32 rd rs1 v (1073762323 + rd * 128 + rs1 * 32768 + 0 * 1048576 + v * 1048576) (by decide) (by decide) (by decide) (by decide) (by decide) (by decide) d1 d2 s1 s2 n1.1 n1.2 (by omega)
  generalize 1073762323 + rd * 128 + rs1 * 32768 + 0 * 1048576 + v * 1048576 = x at *
  simp [decP, k1, k2, k3, k4, k5, k6, brOp, stOp, reOp, ldOp, nuOp, shOp, plOp, rgOp, baOp]

theorem de_28 (rd rs1 rs2 v : Int) (h : mayB 28 rd rs1 rs2 v = true) (b1 : -2147483648 ≤ v) (b2 : v ≤ 2147483647) : decP (enc5 ⟨28, rd, rs1, rs2, v⟩) = ⟨28, rd, rs1, rs2, v⟩ := by
  obtain ⟨hd, hs, ht, hn⟩ := may_parts 28 rd rs1 rs2 v 8 rfl h
  obtain ⟨d1, d2⟩ := reg_yes hd
  obtain ⟨s1, s2⟩ := reg_yes hs
  obtain ⟨t1, t2⟩ := reg_yes ht
  have n1 := num_8 hn
  have e : enc5 ⟨28, rd, rs1, rs2, v⟩ = 51 + rd * 128 + rs1 * 32768 + rs2 * 1048576 + putImm 8 v := rfl
  rw [e]
  rw [show putImm 8 v = 0 from rfl]
  subst n1
  obtain ⟨k1, k2, k3, k4, k5, k6⟩ := xR 51 0 0 rd rs1 rs2 (51 + rd * 128 + rs1 * 32768 + rs2 * 1048576 + 0) (by decide) (by decide) (by decide) (by decide) (by decide) (by decide) d1 d2 s1 s2 t1 t2 (by omega)
  generalize 51 + rd * 128 + rs1 * 32768 + rs2 * 1048576 + 0 = x at *
  simp [decP, k1, k2, k3, k4, k5, k6, brOp, stOp, reOp, ldOp, nuOp, shOp, plOp, rgOp, baOp]

theorem de_29 (rd rs1 rs2 v : Int) (h : mayB 29 rd rs1 rs2 v = true) (b1 : -2147483648 ≤ v) (b2 : v ≤ 2147483647) : decP (enc5 ⟨29, rd, rs1, rs2, v⟩) = ⟨29, rd, rs1, rs2, v⟩ := by
  obtain ⟨hd, hs, ht, hn⟩ := may_parts 29 rd rs1 rs2 v 8 rfl h
  obtain ⟨d1, d2⟩ := reg_yes hd
  obtain ⟨s1, s2⟩ := reg_yes hs
  obtain ⟨t1, t2⟩ := reg_yes ht
  have n1 := num_8 hn
  have e : enc5 ⟨29, rd, rs1, rs2, v⟩ = 1073741875 + rd * 128 + rs1 * 32768 + rs2 * 1048576 + putImm 8 v := rfl
  rw [e]
  rw [show putImm 8 v = 0 from rfl]
  subst n1
  obtain ⟨k1, k2, k3, k4, k5, k6⟩ := xR 51 0 32 rd rs1 rs2 (1073741875 + rd * 128 + rs1 * 32768 + rs2 * 1048576 + 0) (by decide) (by decide) (by decide) (by decide) (by decide) (by decide) d1 d2 s1 s2 t1 t2 (by omega)
  generalize 1073741875 + rd * 128 + rs1 * 32768 + rs2 * 1048576 + 0 = x at *
  simp [decP, k1, k2, k3, k4, k5, k6, brOp, stOp, reOp, ldOp, nuOp, shOp, plOp, rgOp, baOp]

theorem de_30 (rd rs1 rs2 v : Int) (h : mayB 30 rd rs1 rs2 v = true) (b1 : -2147483648 ≤ v) (b2 : v ≤ 2147483647) : decP (enc5 ⟨30, rd, rs1, rs2, v⟩) = ⟨30, rd, rs1, rs2, v⟩ := by
  obtain ⟨hd, hs, ht, hn⟩ := may_parts 30 rd rs1 rs2 v 8 rfl h
  obtain ⟨d1, d2⟩ := reg_yes hd
  obtain ⟨s1, s2⟩ := reg_yes hs
  obtain ⟨t1, t2⟩ := reg_yes ht
  have n1 := num_8 hn
  have e : enc5 ⟨30, rd, rs1, rs2, v⟩ = 4147 + rd * 128 + rs1 * 32768 + rs2 * 1048576 + putImm 8 v := rfl
  rw [e]
  rw [show putImm 8 v = 0 from rfl]
  subst n1
  obtain ⟨k1, k2, k3, k4, k5, k6⟩ := xR 51 1 0 rd rs1 rs2 (4147 + rd * 128 + rs1 * 32768 + rs2 * 1048576 + 0) (by decide) (by decide) (by decide) (by decide) (by decide) (by decide) d1 d2 s1 s2 t1 t2 (by omega)
  generalize 4147 + rd * 128 + rs1 * 32768 + rs2 * 1048576 + 0 = x at *
  simp [decP, k1, k2, k3, k4, k5, k6, brOp, stOp, reOp, ldOp, nuOp, shOp, plOp, rgOp, baOp]

theorem de_31 (rd rs1 rs2 v : Int) (h : mayB 31 rd rs1 rs2 v = true) (b1 : -2147483648 ≤ v) (b2 : v ≤ 2147483647) : decP (enc5 ⟨31, rd, rs1, rs2, v⟩) = ⟨31, rd, rs1, rs2, v⟩ := by
  obtain ⟨hd, hs, ht, hn⟩ := may_parts 31 rd rs1 rs2 v 8 rfl h
  obtain ⟨d1, d2⟩ := reg_yes hd
  obtain ⟨s1, s2⟩ := reg_yes hs
  obtain ⟨t1, t2⟩ := reg_yes ht
  have n1 := num_8 hn
  have e : enc5 ⟨31, rd, rs1, rs2, v⟩ = 8243 + rd * 128 + rs1 * 32768 + rs2 * 1048576 + putImm 8 v := rfl
  rw [e]
  rw [show putImm 8 v = 0 from rfl]
  subst n1
  obtain ⟨k1, k2, k3, k4, k5, k6⟩ := xR 51 2 0 rd rs1 rs2 (8243 + rd * 128 + rs1 * 32768 + rs2 * 1048576 + 0) (by decide) (by decide) (by decide) (by decide) (by decide) (by decide) d1 d2 s1 s2 t1 t2 (by omega)
  generalize 8243 + rd * 128 + rs1 * 32768 + rs2 * 1048576 + 0 = x at *
  simp [decP, k1, k2, k3, k4, k5, k6, brOp, stOp, reOp, ldOp, nuOp, shOp, plOp, rgOp, baOp]

theorem de_32 (rd rs1 rs2 v : Int) (h : mayB 32 rd rs1 rs2 v = true) (b1 : -2147483648 ≤ v) (b2 : v ≤ 2147483647) : decP (enc5 ⟨32, rd, rs1, rs2, v⟩) = ⟨32, rd, rs1, rs2, v⟩ := by
  obtain ⟨hd, hs, ht, hn⟩ := may_parts 32 rd rs1 rs2 v 8 rfl h
  obtain ⟨d1, d2⟩ := reg_yes hd
  obtain ⟨s1, s2⟩ := reg_yes hs
  obtain ⟨t1, t2⟩ := reg_yes ht
  have n1 := num_8 hn
  have e : enc5 ⟨32, rd, rs1, rs2, v⟩ = 12339 + rd * 128 + rs1 * 32768 + rs2 * 1048576 + putImm 8 v := rfl
  rw [e]
  rw [show putImm 8 v = 0 from rfl]
  subst n1
  obtain ⟨k1, k2, k3, k4, k5, k6⟩ := xR 51 3 0 rd rs1 rs2 (12339 + rd * 128 + rs1 * 32768 + rs2 * 1048576 + 0) (by decide) (by decide) (by decide) (by decide) (by decide) (by decide) d1 d2 s1 s2 t1 t2 (by omega)
  generalize 12339 + rd * 128 + rs1 * 32768 + rs2 * 1048576 + 0 = x at *
  simp [decP, k1, k2, k3, k4, k5, k6, brOp, stOp, reOp, ldOp, nuOp, shOp, plOp, rgOp, baOp]

theorem de_33 (rd rs1 rs2 v : Int) (h : mayB 33 rd rs1 rs2 v = true) (b1 : -2147483648 ≤ v) (b2 : v ≤ 2147483647) : decP (enc5 ⟨33, rd, rs1, rs2, v⟩) = ⟨33, rd, rs1, rs2, v⟩ := by
  obtain ⟨hd, hs, ht, hn⟩ := may_parts 33 rd rs1 rs2 v 8 rfl h
  obtain ⟨d1, d2⟩ := reg_yes hd
  obtain ⟨s1, s2⟩ := reg_yes hs
  obtain ⟨t1, t2⟩ := reg_yes ht
  have n1 := num_8 hn
  have e : enc5 ⟨33, rd, rs1, rs2, v⟩ = 16435 + rd * 128 + rs1 * 32768 + rs2 * 1048576 + putImm 8 v := rfl
  rw [e]
  rw [show putImm 8 v = 0 from rfl]
  subst n1
  obtain ⟨k1, k2, k3, k4, k5, k6⟩ := xR 51 4 0 rd rs1 rs2 (16435 + rd * 128 + rs1 * 32768 + rs2 * 1048576 + 0) (by decide) (by decide) (by decide) (by decide) (by decide) (by decide) d1 d2 s1 s2 t1 t2 (by omega)
  generalize 16435 + rd * 128 + rs1 * 32768 + rs2 * 1048576 + 0 = x at *
  simp [decP, k1, k2, k3, k4, k5, k6, brOp, stOp, reOp, ldOp, nuOp, shOp, plOp, rgOp, baOp]

theorem de_34 (rd rs1 rs2 v : Int) (h : mayB 34 rd rs1 rs2 v = true) (b1 : -2147483648 ≤ v) (b2 : v ≤ 2147483647) : decP (enc5 ⟨34, rd, rs1, rs2, v⟩) = ⟨34, rd, rs1, rs2, v⟩ := by
  obtain ⟨hd, hs, ht, hn⟩ := may_parts 34 rd rs1 rs2 v 8 rfl h
  obtain ⟨d1, d2⟩ := reg_yes hd
  obtain ⟨s1, s2⟩ := reg_yes hs
  obtain ⟨t1, t2⟩ := reg_yes ht
  have n1 := num_8 hn
  have e : enc5 ⟨34, rd, rs1, rs2, v⟩ = 20531 + rd * 128 + rs1 * 32768 + rs2 * 1048576 + putImm 8 v := rfl
  rw [e]
  rw [show putImm 8 v = 0 from rfl]
  subst n1
  obtain ⟨k1, k2, k3, k4, k5, k6⟩ := xR 51 5 0 rd rs1 rs2 (20531 + rd * 128 + rs1 * 32768 + rs2 * 1048576 + 0) (by decide) (by decide) (by decide) (by decide) (by decide) (by decide) d1 d2 s1 s2 t1 t2 (by omega)
  generalize 20531 + rd * 128 + rs1 * 32768 + rs2 * 1048576 + 0 = x at *
  simp [decP, k1, k2, k3, k4, k5, k6, brOp, stOp, reOp, ldOp, nuOp, shOp, plOp, rgOp, baOp]

theorem de_35 (rd rs1 rs2 v : Int) (h : mayB 35 rd rs1 rs2 v = true) (b1 : -2147483648 ≤ v) (b2 : v ≤ 2147483647) : decP (enc5 ⟨35, rd, rs1, rs2, v⟩) = ⟨35, rd, rs1, rs2, v⟩ := by
  obtain ⟨hd, hs, ht, hn⟩ := may_parts 35 rd rs1 rs2 v 8 rfl h
  obtain ⟨d1, d2⟩ := reg_yes hd
  obtain ⟨s1, s2⟩ := reg_yes hs
  obtain ⟨t1, t2⟩ := reg_yes ht
  have n1 := num_8 hn
  have e : enc5 ⟨35, rd, rs1, rs2, v⟩ = 1073762355 + rd * 128 + rs1 * 32768 + rs2 * 1048576 + putImm 8 v := rfl
  rw [e]
  rw [show putImm 8 v = 0 from rfl]
  subst n1
  obtain ⟨k1, k2, k3, k4, k5, k6⟩ := xR 51 5 32 rd rs1 rs2 (1073762355 + rd * 128 + rs1 * 32768 + rs2 * 1048576 + 0) (by decide) (by decide) (by decide) (by decide) (by decide) (by decide) d1 d2 s1 s2 t1 t2 (by omega)
  generalize 1073762355 + rd * 128 + rs1 * 32768 + rs2 * 1048576 + 0 = x at *
  simp [decP, k1, k2, k3, k4, k5, k6, brOp, stOp, reOp, ldOp, nuOp, shOp, plOp, rgOp, baOp]

theorem de_36 (rd rs1 rs2 v : Int) (h : mayB 36 rd rs1 rs2 v = true) (b1 : -2147483648 ≤ v) (b2 : v ≤ 2147483647) : decP (enc5 ⟨36, rd, rs1, rs2, v⟩) = ⟨36, rd, rs1, rs2, v⟩ := by
  obtain ⟨hd, hs, ht, hn⟩ := may_parts 36 rd rs1 rs2 v 8 rfl h
  obtain ⟨d1, d2⟩ := reg_yes hd
  obtain ⟨s1, s2⟩ := reg_yes hs
  obtain ⟨t1, t2⟩ := reg_yes ht
  have n1 := num_8 hn
  have e : enc5 ⟨36, rd, rs1, rs2, v⟩ = 24627 + rd * 128 + rs1 * 32768 + rs2 * 1048576 + putImm 8 v := rfl
  rw [e]
  rw [show putImm 8 v = 0 from rfl]
  subst n1
  obtain ⟨k1, k2, k3, k4, k5, k6⟩ := xR 51 6 0 rd rs1 rs2 (24627 + rd * 128 + rs1 * 32768 + rs2 * 1048576 + 0) (by decide) (by decide) (by decide) (by decide) (by decide) (by decide) d1 d2 s1 s2 t1 t2 (by omega)
  generalize 24627 + rd * 128 + rs1 * 32768 + rs2 * 1048576 + 0 = x at *
  simp [decP, k1, k2, k3, k4, k5, k6, brOp, stOp, reOp, ldOp, nuOp, shOp, plOp, rgOp, baOp]

theorem de_37 (rd rs1 rs2 v : Int) (h : mayB 37 rd rs1 rs2 v = true) (b1 : -2147483648 ≤ v) (b2 : v ≤ 2147483647) : decP (enc5 ⟨37, rd, rs1, rs2, v⟩) = ⟨37, rd, rs1, rs2, v⟩ := by
  obtain ⟨hd, hs, ht, hn⟩ := may_parts 37 rd rs1 rs2 v 8 rfl h
  obtain ⟨d1, d2⟩ := reg_yes hd
  obtain ⟨s1, s2⟩ := reg_yes hs
  obtain ⟨t1, t2⟩ := reg_yes ht
  have n1 := num_8 hn
  have e : enc5 ⟨37, rd, rs1, rs2, v⟩ = 28723 + rd * 128 + rs1 * 32768 + rs2 * 1048576 + putImm 8 v := rfl
  rw [e]
  rw [show putImm 8 v = 0 from rfl]
  subst n1
  obtain ⟨k1, k2, k3, k4, k5, k6⟩ := xR 51 7 0 rd rs1 rs2 (28723 + rd * 128 + rs1 * 32768 + rs2 * 1048576 + 0) (by decide) (by decide) (by decide) (by decide) (by decide) (by decide) d1 d2 s1 s2 t1 t2 (by omega)
  generalize 28723 + rd * 128 + rs1 * 32768 + rs2 * 1048576 + 0 = x at *
  simp [decP, k1, k2, k3, k4, k5, k6, brOp, stOp, reOp, ldOp, nuOp, shOp, plOp, rgOp, baOp]

theorem de_38 (rd rs1 rs2 v : Int) (h : mayB 38 rd rs1 rs2 v = true) (b1 : -2147483648 ≤ v) (b2 : v ≤ 2147483647) : decP (enc5 ⟨38, rd, rs1, rs2, v⟩) = ⟨38, rd, rs1, rs2, v⟩ := by
  obtain ⟨hd, hs, ht, hn⟩ := may_parts 38 rd rs1 rs2 v 9 rfl h
  obtain rfl := reg_no hd
  obtain rfl := reg_no hs
  obtain rfl := reg_no ht
  have n1 := num_9 hn
  have e : enc5 ⟨38, 0, 0, 0, v⟩ = 267386895 + 0 * 128 + 0 * 32768 + 0 * 1048576 + putImm 9 v := rfl
  rw [e]
  subst n1
  rfl

theorem de_39 (rd rs1 rs2 v : Int) (h : mayB 39 rd rs1 rs2 v = true) (b1 : -2147483648 ≤ v) (b2 : v ≤ 2147483647) : decP (enc5 ⟨39, rd, rs1, rs2, v⟩) = ⟨39, rd, rs1, rs2, v⟩ := by
  obtain ⟨hd, hs, ht, hn⟩ := may_parts 39 rd rs1 rs2 v 9 rfl h
  obtain rfl := reg_no hd
  obtain rfl := reg_no hs
  obtain rfl := reg_no ht
  have n1 := num_9 hn
  have e : enc5 ⟨39, 0, 0, 0, v⟩ = 115 + 0 * 128 + 0 * 32768 + 0 * 1048576 + putImm 9 v := rfl
  rw [e]
  subst n1
  rfl

theorem de_40 (rd rs1 rs2 v : Int) (h : mayB 40 rd rs1 rs2 v = true) (b1 : -2147483648 ≤ v) (b2 : v ≤ 2147483647) : decP (enc5 ⟨40, rd, rs1, rs2, v⟩) = ⟨40, rd, rs1, rs2, v⟩ := by
  obtain ⟨hd, hs, ht, hn⟩ := may_parts 40 rd rs1 rs2 v 9 rfl h
  obtain rfl := reg_no hd
  obtain rfl := reg_no hs
  obtain rfl := reg_no ht
  have n1 := num_9 hn
  have e : enc5 ⟨40, 0, 0, 0, v⟩ = 1048691 + 0 * 128 + 0 * 32768 + 0 * 1048576 + putImm 9 v := rfl
  rw [e]
  subst n1
  rfl

theorem de_41 (rd rs1 rs2 v : Int) (h : mayB 41 rd rs1 rs2 v = true) (b1 : -2147483648 ≤ v) (b2 : v ≤ 2147483647) : decP (enc5 ⟨41, rd, rs1, rs2, v⟩) = ⟨41, rd, rs1, rs2, v⟩ := by
  obtain ⟨hd, hs, ht, hn⟩ := may_parts 41 rd rs1 rs2 v 8 rfl h
  obtain ⟨d1, d2⟩ := reg_yes hd
  obtain ⟨s1, s2⟩ := reg_yes hs
  obtain ⟨t1, t2⟩ := reg_yes ht
  have n1 := num_8 hn
  have e : enc5 ⟨41, rd, rs1, rs2, v⟩ = 33554483 + rd * 128 + rs1 * 32768 + rs2 * 1048576 + putImm 8 v := rfl
  rw [e]
  rw [show putImm 8 v = 0 from rfl]
  subst n1
  obtain ⟨k1, k2, k3, k4, k5, k6⟩ := xR 51 0 1 rd rs1 rs2 (33554483 + rd * 128 + rs1 * 32768 + rs2 * 1048576 + 0) (by decide) (by decide) (by decide) (by decide) (by decide) (by decide) d1 d2 s1 s2 t1 t2 (by omega)
  generalize 33554483 + rd * 128 + rs1 * 32768 + rs2 * 1048576 + 0 = x at *
  simp [decP, k1, k2, k3, k4, k5, k6, brOp, stOp, reOp, ldOp, nuOp, shOp, plOp, rgOp, baOp]

theorem de_42 (rd rs1 rs2 v : Int) (h : mayB 42 rd rs1 rs2 v = true) (b1 : -2147483648 ≤ v) (b2 : v ≤ 2147483647) : decP (enc5 ⟨42, rd, rs1, rs2, v⟩) = ⟨42, rd, rs1, rs2, v⟩ := by
  obtain ⟨hd, hs, ht, hn⟩ := may_parts 42 rd rs1 rs2 v 8 rfl h
  obtain ⟨d1, d2⟩ := reg_yes hd
  obtain ⟨s1, s2⟩ := reg_yes hs
  obtain ⟨t1, t2⟩ := reg_yes ht
  have n1 := num_8 hn
  have e : enc5 ⟨42, rd, rs1, rs2, v⟩ = 33558579 + rd * 128 + rs1 * 32768 + rs2 * 1048576 + putImm 8 v := rfl
  rw [e]
  rw [show putImm 8 v = 0 from rfl]
  subst n1
  obtain ⟨k1, k2, k3, k4, k5, k6⟩ := xR 51 1 1 rd rs1 rs2 (33558579 + rd * 128 + rs1 * 32768 + rs2 * 1048576 + 0) (by decide) (by decide) (by decide) (by decide) (by decide) (by decide) d1 d2 s1 s2 t1 t2 (by omega)
  generalize 33558579 + rd * 128 + rs1 * 32768 + rs2 * 1048576 + 0 = x at *
  simp [decP, k1, k2, k3, k4, k5, k6, brOp, stOp, reOp, ldOp, nuOp, shOp, plOp, rgOp, baOp]

theorem de_43 (rd rs1 rs2 v : Int) (h : mayB 43 rd rs1 rs2 v = true) (b1 : -2147483648 ≤ v) (b2 : v ≤ 2147483647) : decP (enc5 ⟨43, rd, rs1, rs2, v⟩) = ⟨43, rd, rs1, rs2, v⟩ := by
  obtain ⟨hd, hs, ht, hn⟩ := may_parts 43 rd rs1 rs2 v 8 rfl h
  obtain ⟨d1, d2⟩ := reg_yes hd
  obtain ⟨s1, s2⟩ := reg_yes hs
  obtain ⟨t1, t2⟩ := reg_yes ht
  have n1 := num_8 hn
  have e : enc5 ⟨43, rd, rs1, rs2, v⟩ = 33562675 + rd * 128 + rs1 * 32768 + rs2 * 1048576 + putImm 8 v := rfl
  rw [e]
  rw [show putImm 8 v = 0 from rfl]
  subst n1
  obtain ⟨k1, k2, k3, k4, k5, k6⟩ := xR 51 2 1 rd rs1 rs2 (33562675 + rd * 128 + rs1 * 32768 + rs2 * 1048576 + 0) (by decide) (by decide) (by decide) (by decide) (by decide) (by decide) d1 d2 s1 s2 t1 t2 (by omega)
  generalize 33562675 + rd * 128 + rs1 * 32768 + rs2 * 1048576 + 0 = x at *
  simp [decP, k1, k2, k3, k4, k5, k6, brOp, stOp, reOp, ldOp, nuOp, shOp, plOp, rgOp, baOp]

theorem de_44 (rd rs1 rs2 v : Int) (h : mayB 44 rd rs1 rs2 v = true) (b1 : -2147483648 ≤ v) (b2 : v ≤ 2147483647) : decP (enc5 ⟨44, rd, rs1, rs2, v⟩) = ⟨44, rd, rs1, rs2, v⟩ := by
  obtain ⟨hd, hs, ht, hn⟩ := may_parts 44 rd rs1 rs2 v 8 rfl h
  obtain ⟨d1, d2⟩ := reg_yes hd
  obtain ⟨s1, s2⟩ := reg_yes hs
  obtain ⟨t1, t2⟩ := reg_yes ht
  have n1 := num_8 hn
  have e : enc5 ⟨44, rd, rs1, rs2, v⟩ = 33566771 + rd * 128 + rs1 * 32768 + rs2 * 1048576 + putImm 8 v := rfl
  rw [e]
  rw [show putImm 8 v = 0 from rfl]
  subst n1
  obtain ⟨k1, k2, k3, k4, k5, k6⟩ := xR 51 3 1 rd rs1 rs2 (33566771 + rd * 128 + rs1 * 32768 + rs2 * 1048576 + 0) (by decide) (by decide) (by decide) (by decide) (by decide) (by decide) d1 d2 s1 s2 t1 t2 (by omega)
  generalize 33566771 + rd * 128 + rs1 * 32768 + rs2 * 1048576 + 0 = x at *
  simp [decP, k1, k2, k3, k4, k5, k6, brOp, stOp, reOp, ldOp, nuOp, shOp, plOp, rgOp, baOp]

theorem de_45 (rd rs1 rs2 v : Int) (h : mayB 45 rd rs1 rs2 v = true) (b1 : -2147483648 ≤ v) (b2 : v ≤ 2147483647) : decP (enc5 ⟨45, rd, rs1, rs2, v⟩) = ⟨45, rd, rs1, rs2, v⟩ := by
  obtain ⟨hd, hs, ht, hn⟩ := may_parts 45 rd rs1 rs2 v 8 rfl h
  obtain ⟨d1, d2⟩ := reg_yes hd
  obtain ⟨s1, s2⟩ := reg_yes hs
  obtain ⟨t1, t2⟩ := reg_yes ht
  have n1 := num_8 hn
  have e : enc5 ⟨45, rd, rs1, rs2, v⟩ = 33570867 + rd * 128 + rs1 * 32768 + rs2 * 1048576 + putImm 8 v := rfl
  rw [e]
  rw [show putImm 8 v = 0 from rfl]
  subst n1
  obtain ⟨k1, k2, k3, k4, k5, k6⟩ := xR 51 4 1 rd rs1 rs2 (33570867 + rd * 128 + rs1 * 32768 + rs2 * 1048576 + 0) (by decide) (by decide) (by decide) (by decide) (by decide) (by decide) d1 d2 s1 s2 t1 t2 (by omega)
  generalize 33570867 + rd * 128 + rs1 * 32768 + rs2 * 1048576 + 0 = x at *
  simp [decP, k1, k2, k3, k4, k5, k6, brOp, stOp, reOp, ldOp, nuOp, shOp, plOp, rgOp, baOp]

theorem de_46 (rd rs1 rs2 v : Int) (h : mayB 46 rd rs1 rs2 v = true) (b1 : -2147483648 ≤ v) (b2 : v ≤ 2147483647) : decP (enc5 ⟨46, rd, rs1, rs2, v⟩) = ⟨46, rd, rs1, rs2, v⟩ := by
  obtain ⟨hd, hs, ht, hn⟩ := may_parts 46 rd rs1 rs2 v 8 rfl h
  obtain ⟨d1, d2⟩ := reg_yes hd
  obtain ⟨s1, s2⟩ := reg_yes hs
  obtain ⟨t1, t2⟩ := reg_yes ht
  have n1 := num_8 hn
  have e : enc5 ⟨46, rd, rs1, rs2, v⟩ = 33574963 + rd * 128 + rs1 * 32768 + rs2 * 1048576 + putImm 8 v := rfl
  rw [e]
  rw [show putImm 8 v = 0 from rfl]
  subst n1
  obtain ⟨k1, k2, k3, k4, k5, k6⟩ := xR 51 5 1 rd rs1 rs2 (33574963 + rd * 128 + rs1 * 32768 + rs2 * 1048576 + 0) (by decide) (by decide) (by decide) (by decide) (by decide) (by decide) d1 d2 s1 s2 t1 t2 (by omega)
  generalize 33574963 + rd * 128 + rs1 * 32768 + rs2 * 1048576 + 0 = x at *
  simp [decP, k1, k2, k3, k4, k5, k6, brOp, stOp, reOp, ldOp, nuOp, shOp, plOp, rgOp, baOp]

theorem de_47 (rd rs1 rs2 v : Int) (h : mayB 47 rd rs1 rs2 v = true) (b1 : -2147483648 ≤ v) (b2 : v ≤ 2147483647) : decP (enc5 ⟨47, rd, rs1, rs2, v⟩) = ⟨47, rd, rs1, rs2, v⟩ := by
  obtain ⟨hd, hs, ht, hn⟩ := may_parts 47 rd rs1 rs2 v 8 rfl h
  obtain ⟨d1, d2⟩ := reg_yes hd
  obtain ⟨s1, s2⟩ := reg_yes hs
  obtain ⟨t1, t2⟩ := reg_yes ht
  have n1 := num_8 hn
  have e : enc5 ⟨47, rd, rs1, rs2, v⟩ = 33579059 + rd * 128 + rs1 * 32768 + rs2 * 1048576 + putImm 8 v := rfl
  rw [e]
  rw [show putImm 8 v = 0 from rfl]
  subst n1
  obtain ⟨k1, k2, k3, k4, k5, k6⟩ := xR 51 6 1 rd rs1 rs2 (33579059 + rd * 128 + rs1 * 32768 + rs2 * 1048576 + 0) (by decide) (by decide) (by decide) (by decide) (by decide) (by decide) d1 d2 s1 s2 t1 t2 (by omega)
  generalize 33579059 + rd * 128 + rs1 * 32768 + rs2 * 1048576 + 0 = x at *
  simp [decP, k1, k2, k3, k4, k5, k6, brOp, stOp, reOp, ldOp, nuOp, shOp, plOp, rgOp, baOp]

theorem de_48 (rd rs1 rs2 v : Int) (h : mayB 48 rd rs1 rs2 v = true) (b1 : -2147483648 ≤ v) (b2 : v ≤ 2147483647) : decP (enc5 ⟨48, rd, rs1, rs2, v⟩) = ⟨48, rd, rs1, rs2, v⟩ := by
  obtain ⟨hd, hs, ht, hn⟩ := may_parts 48 rd rs1 rs2 v 8 rfl h
  obtain ⟨d1, d2⟩ := reg_yes hd
  obtain ⟨s1, s2⟩ := reg_yes hs
  obtain ⟨t1, t2⟩ := reg_yes ht
  have n1 := num_8 hn
  have e : enc5 ⟨48, rd, rs1, rs2, v⟩ = 33583155 + rd * 128 + rs1 * 32768 + rs2 * 1048576 + putImm 8 v := rfl
  rw [e]
  rw [show putImm 8 v = 0 from rfl]
  subst n1
  obtain ⟨k1, k2, k3, k4, k5, k6⟩ := xR 51 7 1 rd rs1 rs2 (33583155 + rd * 128 + rs1 * 32768 + rs2 * 1048576 + 0) (by decide) (by decide) (by decide) (by decide) (by decide) (by decide) d1 d2 s1 s2 t1 t2 (by omega)
  generalize 33583155 + rd * 128 + rs1 * 32768 + rs2 * 1048576 + 0 = x at *
  simp [decP, k1, k2, k3, k4, k5, k6, brOp, stOp, reOp, ldOp, nuOp, shOp, plOp, rgOp, baOp]

theorem dec_enc5 (op rd rs1 rs2 v : Int) (h : mayB op rd rs1 rs2 v = true) (b1 : -2147483648 ≤ v) (b2 : v ≤ 2147483647) : decP (enc5 ⟨op, rd, rs1, rs2, v⟩) = ⟨op, rd, rs1, rs2, v⟩ := by
  obtain ⟨o1, o2, _⟩ := may_facts op rd rs1 rs2 v h
  rcases (by omega : op = 1 ∨ op = 2 ∨ op = 3 ∨ op = 4 ∨ op = 5 ∨ op = 6 ∨ op = 7 ∨ op = 8 ∨ op = 9 ∨ op = 10 ∨ op = 11 ∨ op = 12 ∨ op = 13 ∨ op = 14 ∨ op = 15 ∨ op = 16 ∨ op = 17 ∨ op = 18 ∨ op = 19 ∨ op = 20 ∨ op = 21 ∨ op = 22 ∨ op = 23 ∨ op = 24 ∨ op = 25 ∨ op = 26 ∨ op = 27 ∨ op = 28 ∨ op = 29 ∨ op = 30 ∨ op = 31 ∨ op = 32 ∨ op = 33 ∨ op = 34 ∨ op = 35 ∨ op = 36 ∨ op = 37 ∨ op = 38 ∨ op = 39 ∨ op = 40 ∨ op = 41 ∨ op = 42 ∨ op = 43 ∨ op = 44 ∨ op = 45 ∨ op = 46 ∨ op = 47 ∨ op = 48) with rfl | rfl | rfl | rfl | rfl | rfl | rfl | rfl | rfl | rfl | rfl | rfl | rfl | rfl | rfl | rfl | rfl | rfl | rfl | rfl | rfl | rfl | rfl | rfl | rfl | rfl | rfl | rfl | rfl | rfl | rfl | rfl | rfl | rfl | rfl | rfl | rfl | rfl | rfl | rfl | rfl | rfl | rfl | rfl | rfl | rfl | rfl | rfl
  · exact de_1 rd rs1 rs2 v h b1 b2
  · exact de_2 rd rs1 rs2 v h b1 b2
  · exact de_3 rd rs1 rs2 v h b1 b2
  · exact de_4 rd rs1 rs2 v h b1 b2
  · exact de_5 rd rs1 rs2 v h b1 b2
  · exact de_6 rd rs1 rs2 v h b1 b2
  · exact de_7 rd rs1 rs2 v h b1 b2
  · exact de_8 rd rs1 rs2 v h b1 b2
  · exact de_9 rd rs1 rs2 v h b1 b2
  · exact de_10 rd rs1 rs2 v h b1 b2
  · exact de_11 rd rs1 rs2 v h b1 b2
  · exact de_12 rd rs1 rs2 v h b1 b2
  · exact de_13 rd rs1 rs2 v h b1 b2
  · exact de_14 rd rs1 rs2 v h b1 b2
  · exact de_15 rd rs1 rs2 v h b1 b2
  · exact de_16 rd rs1 rs2 v h b1 b2
  · exact de_17 rd rs1 rs2 v h b1 b2
  · exact de_18 rd rs1 rs2 v h b1 b2
  · exact de_19 rd rs1 rs2 v h b1 b2
  · exact de_20 rd rs1 rs2 v h b1 b2
  · exact de_21 rd rs1 rs2 v h b1 b2
  · exact de_22 rd rs1 rs2 v h b1 b2
  · exact de_23 rd rs1 rs2 v h b1 b2
  · exact de_24 rd rs1 rs2 v h b1 b2
  · exact de_25 rd rs1 rs2 v h b1 b2
  · exact de_26 rd rs1 rs2 v h b1 b2
  · exact de_27 rd rs1 rs2 v h b1 b2
  · exact de_28 rd rs1 rs2 v h b1 b2
  · exact de_29 rd rs1 rs2 v h b1 b2
  · exact de_30 rd rs1 rs2 v h b1 b2
  · exact de_31 rd rs1 rs2 v h b1 b2
  · exact de_32 rd rs1 rs2 v h b1 b2
  · exact de_33 rd rs1 rs2 v h b1 b2
  · exact de_34 rd rs1 rs2 v h b1 b2
  · exact de_35 rd rs1 rs2 v h b1 b2
  · exact de_36 rd rs1 rs2 v h b1 b2
  · exact de_37 rd rs1 rs2 v h b1 b2
  · exact de_38 rd rs1 rs2 v h b1 b2
  · exact de_39 rd rs1 rs2 v h b1 b2
  · exact de_40 rd rs1 rs2 v h b1 b2
  · exact de_41 rd rs1 rs2 v h b1 b2
  · exact de_42 rd rs1 rs2 v h b1 b2
  · exact de_43 rd rs1 rs2 v h b1 b2
  · exact de_44 rd rs1 rs2 v h b1 b2
  · exact de_45 rd rs1 rs2 v h b1 b2
  · exact de_46 rd rs1 rs2 v h b1 b2
  · exact de_47 rd rs1 rs2 v h b1 b2
  · exact de_48 rd rs1 rs2 v h b1 b2

theorem enc5_bd (op rd rs1 rs2 v : Int) (h : mayB op rd rs1 rs2 v = true) : 0 ≤ enc5 ⟨op, rd, rs1, rs2, v⟩ ∧ enc5 ⟨op, rd, rs1, rs2, v⟩ < 4294967296 := by
  have h1 := put_plain op rd rs1 rs2 v h
  rw [← h1, putW_succ]
  have := bounds_u32 (wf_bits BinOp.or IntKind.u32 (putW (formN op) v (putM op rd rs1 rs2) 3) (fld (v % 4294967296) (pFrom (formN op) 3).toNat (pBits (formN op) 3).toNat * 2 ^ (pAt (formN op) 3).toNat % 4294967296))
  omega

/-- What the lowest bits of a word are. -/
theorem enc5_low (op rd rs1 rs2 v : Int) (h : mayB op rd rs1 rs2 v = true) (b1 : -2147483648 ≤ v) (b2 : v ≤ 2147483647) : enc5 ⟨op, rd, rs1, rs2, v⟩ % 4 = 3 ∧ enc5 ⟨op, rd, rs1, rs2, v⟩ % 32 ≠ 31 := by
  have h1 := dec_enc5 op rd rs1 rs2 v h b1 b2
  obtain ⟨o1, o2, _⟩ := may_facts op rd rs1 rs2 v h
  generalize enc5 ⟨op, rd, rs1, rs2, v⟩ = x at *
  have h2 := congrArg In5.op h1
  simp only at h2
  have k : x % 128 = 55 ∨ x % 128 = 23 ∨ x % 128 = 111 ∨ x % 128 = 99 ∨ x % 128 = 35 ∨ x % 128 = 19 ∨ x % 128 = 103 ∨ x % 128 = 3 ∨ x % 128 = 51 ∨ x % 128 = 15 ∨ x % 128 = 115 := by
    apply Classical.byContradiction
    intro hn
    simp only [not_or] at hn
    obtain ⟨n1, n2, n3, n4, n5, n6, n7, n8, n9, n10, n11⟩ := hn
    have : (decP x).op = 0 := by simp [decP, n1, n2, n3, n4, n5, n6, n7, n8, n9, n10, n11, none5]
    omega
  omega

end Go.Proofs.YtpaadeiopflfgaaDoor
