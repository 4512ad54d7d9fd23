/- Plain: a word's instruction, an instruction's word, and that the second undoes the first. No program in sight. -/
import Derived.Test.YtdgmdkkockbkjaaGreatDoorForms
namespace Go.Proofs.YtdgmdkkockbkjaaGreatDoor
open Go.RowKit
set_option linter.unusedVariables false

/-- An instruction: its operation, its registers, its number. -/
structure In5 where
  op : Int
  rd : Int
  rs1 : Int
  rs2 : Int
  imm : Int

def none5 : In5 := ⟨0, 0, 0, 0, 0⟩

def brOp (f : Int) : Int := if f = 0 then 5 else if f = 1 then 6 else if f = 4 then 7 else if f = 5 then 8 else if f = 6 then 9 else if f = 7 then 10 else 0

def stOp (f : Int) : Int := if f = 0 then 16 else if f = 1 then 17 else if f = 2 then 18 else 0

def reOp (f : Int) : Int := if f = 0 then 19 else if f = 2 then 20 else if f = 3 then 21 else if f = 4 then 22 else if f = 6 then 23 else if f = 7 then 24 else 0

def ldOp (f : Int) : Int := if f = 0 then 11 else if f = 1 then 12 else if f = 2 then 13 else if f = 4 then 14 else if f = 5 then 15 else 0

def nuOp (o f : Int) : Int := if o = 19 then reOp f else if o = 103 then (if f = 0 then 4 else 0) else ldOp f

def shOp (f g : Int) : Int := if f = 1 ∧ g = 0 then 25 else if f = 5 ∧ g = 0 then 26 else if f = 5 ∧ g = 32 then 27 else 0

def plOp (f : Int) : Int := if f = 0 then 28 else if f = 1 then 30 else if f = 2 then 31 else if f = 3 then 32 else if f = 4 then 33 else if f = 5 then 34 else if f = 6 then 36 else 37

def rgOp (f g : Int) : Int := if g = 0 then plOp f else if g = 1 then 41 + f else if g = 32 then (if f = 0 then 29 else if f = 5 then 35 else 0) else 0

def baOp (x o f : Int) : Int := if o = 15 ∧ f = 0 then 38 else if x = 115 then 39 else if x = 1048691 then 40 else 0

theorem sgn_lo' (v : Int) (n : Nat) (h : 0 ≤ v) (h' : 2 * v < 2 ^ n) : sgn v n = v := sgn_of_range v n (by have := pow_pos' n; omega) h'

theorem sgn_hi' (v : Int) (n : Nat) (h : v < 2 ^ n) (h' : 2 ^ n ≤ 2 * v) : sgn v n = v - 2 ^ n := by
  have e : sgn v n = sgn (v - 2 ^ n) n := by
    unfold sgn
    have h1 : (v - 2 ^ n) % 2 ^ n = v % 2 ^ n := by
      have := Int.add_mul_emod_self_right v (-1) (2 ^ n)
      rw [← this]; congr 1; omega
    rw [← Int.emod_bmod (x := v), ← Int.emod_bmod (x := v - 2 ^ n), pow_cast, h1]
  rw [e]
  exact sgn_of_range _ n (by omega) (by omega)

theorem sgn_inj (u v : Int) (n : Nat) (hu : 0 ≤ u) (hu' : u < 2 ^ n) (hv : 0 ≤ v) (hv' : v < 2 ^ n) (h : sgn u n = sgn v n) : u = v := by
  rcases Int.lt_or_le (2 * u) (2 ^ n) with a | a <;> rcases Int.lt_or_le (2 * v) (2 ^ n) with b | b
  · rw [sgn_lo' u n hu a, sgn_lo' v n hv b] at h; exact h
  · rw [sgn_lo' u n hu a, sgn_hi' v n hv' b] at h; omega
  · rw [sgn_hi' u n hu' a, sgn_lo' v n hv b] at h; omega
  · rw [sgn_hi' u n hu' a, sgn_hi' v n hv' b] at h; omega

def vI (x : Int) : Int := x / 1048576 % 4096

def vS (x : Int) : Int := x / 33554432 % 128 * 32 + x / 128 % 32

def vB (x : Int) : Int := (((x / 2147483648 % 2 * 2 + x / 128 % 2) * 64 + x / 33554432 % 64) * 16 + x / 256 % 16) * 2

def vU (x : Int) : Int := x / 4096 % 1048576 * 4096

def vJ (x : Int) : Int := (((x / 2147483648 % 2 * 256 + x / 4096 % 256) * 2 + x / 1048576 % 2) * 1024 + x / 2097152 % 1024) * 2

theorem p12 : (2 : Int) ^ 12 = 4096 := by decide

theorem p13 : (2 : Int) ^ 13 = 8192 := by decide

theorem p21 : (2 : Int) ^ 21 = 2097152 := by decide

theorem p32 : (2 : Int) ^ 32 = 4294967296 := by decide

def jI (x : Int) : Int := sgn (vI x) 12

def jS (x : Int) : Int := sgn (vS x) 12

def jB (x : Int) : Int := sgn (vB x) 13

def jU (x : Int) : Int := sgn (vU x) 32

def jJ (x : Int) : Int := sgn (vJ x) 21

def putImm (f v : Int) : Int :=
  if f = 1 then fld v 12 20 * 4096
  else if f = 2 then fld v 20 1 * 2147483648 + fld v 12 8 * 4096 + fld v 11 1 * 1048576 + fld v 1 10 * 2097152
  else if f = 3 then fld v 12 1 * 2147483648 + fld v 11 1 * 128 + fld v 5 6 * 33554432 + fld v 1 4 * 256
  else if f = 4 ∨ f = 6 then fld v 0 12 * 1048576
  else if f = 5 then fld v 5 7 * 33554432 + fld v 0 5 * 128
  else if f = 7 then fld v 0 5 * 1048576
  else 0

def enc5 (i : In5) : Int := rowM i.op + i.rd * 128 + i.rs1 * 32768 + i.rs2 * 1048576 + putImm (formN i.op) i.imm

theorem sgn_two (v : Int) (n : Nat) (h : 0 ≤ v) (h' : v < 2 ^ n) : (2 * v < 2 ^ n ∧ sgn v n = v) ∨ (2 ^ n ≤ 2 * v ∧ sgn v n = v - 2 ^ n) := by
  rcases Int.lt_or_le (2 * v) (2 ^ n) with a | a
  · exact Or.inl ⟨a, sgn_lo' v n h a⟩
  · exact Or.inr ⟨a, sgn_hi' v n h' a⟩

theorem jI_two (x : Int) : (vI x < 2048 ∧ jI x = vI x) ∨ (2048 ≤ vI x ∧ jI x = vI x - 4096) := by
  have h := sgn_two (vI x) 12 (by unfold vI; omega) (by rw [p12]; unfold vI; omega)
  rw [p12] at h; unfold jI; omega

theorem jS_two (x : Int) : (vS x < 2048 ∧ jS x = vS x) ∨ (2048 ≤ vS x ∧ jS x = vS x - 4096) := by
  have h := sgn_two (vS x) 12 (by unfold vS; omega) (by rw [p12]; unfold vS; omega)
  rw [p12] at h; unfold jS; omega

theorem jB_two (x : Int) : (vB x < 4096 ∧ jB x = vB x) ∨ (4096 ≤ vB x ∧ jB x = vB x - 8192) := by
  have h := sgn_two (vB x) 13 (by unfold vB; omega) (by rw [p13]; unfold vB; omega)
  rw [p13] at h; unfold jB; omega

theorem jU_two (x : Int) : (vU x < 2147483648 ∧ jU x = vU x) ∨ (2147483648 ≤ vU x ∧ jU x = vU x - 4294967296) := by
  have h := sgn_two (vU x) 32 (by unfold vU; omega) (by rw [p32]; unfold vU; omega)
  rw [p32] at h; unfold jU; omega

theorem jJ_two (x : Int) : (vJ x < 1048576 ∧ jJ x = vJ x) ∨ (1048576 ≤ vJ x ∧ jJ x = vJ x - 2097152) := by
  have h := sgn_two (vJ x) 21 (by unfold vJ; omega) (by rw [p21]; unfold vJ; omega)
  rw [p21] at h; unfold jJ; omega

theorem pI (v : Int) : fld v 0 12 = v % 4096 := by simp [fld]

theorem enc_I (x f o : Int) (hx : 0 ≤ x) (hx' : x < 4294967296) (ho : x % 128 = o) (hf : x / 4096 % 8 = f) : o + f * 4096 + x / 128 % 32 * 128 + x / 32768 % 32 * 32768 + 0 * 1048576 + fld (jI x) 0 12 * 1048576 = x := by
  rw [pI]
  have h := jI_two x
  unfold vI at h
  omega

theorem digits (x : Int) (hx : 0 ≤ x) (hx' : x < 4294967296) : ∃ o a0 a1 f b c0 c1 d0 d1 : Int, x = o + 128 * a0 + 256 * a1 + 4096 * f + 32768 * b + 1048576 * c0 + 2097152 * c1 + 33554432 * d0 + 2147483648 * d1 ∧
    0 ≤ o ∧ o < 128 ∧ 0 ≤ a0 ∧ a0 < 2 ∧ 0 ≤ a1 ∧ a1 < 16 ∧ 0 ≤ f ∧ f < 8 ∧ 0 ≤ b ∧ b < 32 ∧ 0 ≤ c0 ∧ c0 < 2 ∧ 0 ≤ c1 ∧ c1 < 16 ∧ 0 ≤ d0 ∧ d0 < 64 ∧ 0 ≤ d1 ∧ d1 < 2 := by
  refine ⟨x % 128, x / 128 % 2, x / 128 / 2 % 16, x / 128 / 2 / 16 % 8, x / 128 / 2 / 16 / 8 % 32, x / 128 / 2 / 16 / 8 / 32 % 2, x / 128 / 2 / 16 / 8 / 32 / 2 % 16, x / 128 / 2 / 16 / 8 / 32 / 2 / 16 % 64, x / 128 / 2 / 16 / 8 / 32 / 2 / 16 / 64, ?_⟩
  omega

theorem fB (d1 a0 d0 a1 v : Int) (h3 : 0 ≤ a0) (h4 : a0 < 2) (h5 : 0 ≤ a1) (h6 : a1 < 16) (h15 : 0 ≤ d0) (h16 : d0 < 64) (h17 : 0 ≤ d1) (h18 : d1 < 2)
    (hv : v = (((d1 * 2 + a0) * 64 + d0) * 16 + a1) * 2 ∨ v = (((d1 * 2 + a0) * 64 + d0) * 16 + a1) * 2 - 8192) : v / 4096 % 2 = d1 ∧ v / 2048 % 2 = a0 ∧ v / 32 % 64 = d0 ∧ v / 2 % 16 = a1 := by
  have e1 : d1 = 0 ∨ d1 = 1 := by omega
  have e2 : a0 = 0 ∨ a0 = 1 := by omega
  rcases e1 with rfl | rfl <;> rcases e2 with rfl | rfl <;> rcases hv with rfl | rfl <;> refine ⟨?_, ?_, ?_, ?_⟩ <;> omega

theorem fJ (d1 g c0 e v : Int) (h3 : 0 ≤ g) (h4 : g < 256) (h5 : 0 ≤ c0) (h6 : c0 < 2) (h15 : 0 ≤ e) (h16 : e < 1024) (h17 : 0 ≤ d1) (h18 : d1 < 2)
    (hv : v = (((d1 * 256 + g) * 2 + c0) * 1024 + e) * 2 ∨ v = (((d1 * 256 + g) * 2 + c0) * 1024 + e) * 2 - 2097152) : v / 1048576 % 2 = d1 ∧ v / 4096 % 256 = g ∧ v / 2048 % 2 = c0 ∧ v / 2 % 1024 = e := by
  have e1 : d1 = 0 ∨ d1 = 1 := by omega
  have e2 : c0 = 0 ∨ c0 = 1 := by omega
  rcases e1 with rfl | rfl <;> rcases e2 with rfl | rfl <;> rcases hv with rfl | rfl <;> refine ⟨?_, ?_, ?_, ?_⟩ <;> omega

theorem enc_S (x f : Int) (hx : 0 ≤ x) (hx' : x < 4294967296) (ho : x % 128 = 35) (hf : x / 4096 % 8 = f) : 35 + f * 4096 + 0 * 128 + x / 32768 % 32 * 32768 + x / 1048576 % 32 * 1048576 + (fld (jS x) 5 7 * 33554432 + fld (jS x) 0 5 * 128) = x := by
  have e1 : ∀ v, fld v 5 7 = v / 32 % 128 := fun v => by simp [fld]
  have e2 : ∀ v, fld v 0 5 = v % 32 := fun v => by simp [fld]
  rw [e1, e2]
  have h := jS_two x
  obtain ⟨o, a0, a1, f', b, c0, c1, d0, d1, e, h1, h2, h3, h4, h5, h6, h7, h8, h9, h10, h11, h12, h13, h14, h15, h16, h17, h18⟩ := digits x hx hx'
  have k1 : vS x = (d0 + 64 * d1) * 32 + (a0 + 2 * a1) := by
    have : x / 33554432 % 128 = d0 + 64 * d1 := by omega
    have : x / 128 % 32 = a0 + 2 * a1 := by omega
    unfold vS; omega
  have k2 : x / 4096 % 8 = f' := by omega
  have k3 : x / 32768 % 32 = b := by omega
  have k4 : x / 1048576 % 32 = c0 + 2 * c1 := by omega
  have k5 : x % 128 = o := by omega
  have k6 : jS x / 32 % 128 = d0 + 64 * d1 := by omega
  have k7 : jS x % 32 = a0 + 2 * a1 := by omega
  rw [k3, k4, k6, k7]
  omega

theorem enc_B (x f : Int) (hx : 0 ≤ x) (hx' : x < 4294967296) (ho : x % 128 = 99) (hf : x / 4096 % 8 = f) : 99 + f * 4096 + 0 * 128 + x / 32768 % 32 * 32768 + x / 1048576 % 32 * 1048576 + (fld (jB x) 12 1 * 2147483648 + fld (jB x) 11 1 * 128 + fld (jB x) 5 6 * 33554432 + fld (jB x) 1 4 * 256) = x := by
  have e1 : ∀ v, fld v 12 1 = v / 4096 % 2 := fun v => by simp [fld]
  have e2 : ∀ v, fld v 11 1 = v / 2048 % 2 := fun v => by simp [fld]
  have e3 : ∀ v, fld v 5 6 = v / 32 % 64 := fun v => by simp [fld]
  have e4 : ∀ v, fld v 1 4 = v / 2 % 16 := fun v => by simp [fld]
  rw [e1, e2, e3, e4]
  have h := jB_two x
  obtain ⟨o, a0, a1, f', b, c0, c1, d0, d1, e, h1, h2, h3, h4, h5, h6, h7, h8, h9, h10, h11, h12, h13, h14, h15, h16, h17, h18⟩ := digits x hx hx'
  have k1 : vB x = (((d1 * 2 + a0) * 64 + d0) * 16 + a1) * 2 := by
    have : x / 2147483648 % 2 = d1 := by omega
    have : x / 128 % 2 = a0 := by omega
    have : x / 33554432 % 64 = d0 := by omega
    have : x / 256 % 16 = a1 := by omega
    unfold vB; omega
  have k2 : x / 4096 % 8 = f' := by omega
  have k3 : x / 32768 % 32 = b := by omega
  have k4 : x / 1048576 % 32 = c0 + 2 * c1 := by omega
  have k5 : x % 128 = o := by omega
  obtain ⟨k6, k7, k8, k9⟩ := fB d1 a0 d0 a1 (jB x) h3 h4 h5 h6 h15 h16 h17 h18 (by rw [k1] at h; omega)
  rw [k3, k4, k6, k7, k8, k9]
  omega

theorem enc_U (x o : Int) (hx : 0 ≤ x) (hx' : x < 4294967296) (ho : x % 128 = o) : o + x / 128 % 32 * 128 + 0 * 32768 + 0 * 1048576 + fld (jU x) 12 20 * 4096 = x := by
  have e1 : ∀ v, fld v 12 20 = v / 4096 % 1048576 := fun v => by simp [fld]
  rw [e1]
  have h := jU_two x
  unfold vU at h
  omega

theorem enc_J (x : Int) (hx : 0 ≤ x) (hx' : x < 4294967296) (ho : x % 128 = 111) : 111 + x / 128 % 32 * 128 + 0 * 32768 + 0 * 1048576 + (fld (jJ x) 20 1 * 2147483648 + fld (jJ x) 12 8 * 4096 + fld (jJ x) 11 1 * 1048576 + fld (jJ x) 1 10 * 2097152) = x := by
  have e1 : ∀ v, fld v 20 1 = v / 1048576 % 2 := fun v => by simp [fld]
  have e2 : ∀ v, fld v 12 8 = v / 4096 % 256 := fun v => by simp [fld]
  have e3 : ∀ v, fld v 11 1 = v / 2048 % 2 := fun v => by simp [fld]
  have e4 : ∀ v, fld v 1 10 = v / 2 % 1024 := fun v => by simp [fld]
  rw [e1, e2, e3, e4]
  have h := jJ_two x
  obtain ⟨o, a0, a1, f', b, c0, c1, d0, d1, e, h1, h2, h3, h4, h5, h6, h7, h8, h9, h10, h11, h12, h13, h14, h15, h16, h17, h18⟩ := digits x hx hx'
  have k1 : vJ x = (((d1 * 256 + (f' + 8 * b)) * 2 + c0) * 1024 + (c1 + 16 * d0)) * 2 := by
    have : x / 2147483648 % 2 = d1 := by omega
    have : x / 4096 % 256 = f' + 8 * b := by omega
    have : x / 1048576 % 2 = c0 := by omega
    have : x / 2097152 % 1024 = c1 + 16 * d0 := by omega
    unfold vJ; omega
  have k4 : x / 128 % 32 = a0 + 2 * a1 := by omega
  have k5 : x % 128 = o := by omega
  obtain ⟨k6, k7, k8, k9⟩ := fJ d1 (f' + 8 * b) c0 (c1 + 16 * d0) (jJ x) (by omega) (by omega) h11 h12 (by omega) (by omega) h17 h18 (by rw [k1] at h; omega)
  rw [k4, k6, k7, k8, k9]
  omega

theorem f8 (f : Int) (h : 0 ≤ f) (h' : f < 8) : f = 0 ∨ f = 1 ∨ f = 2 ∨ f = 3 ∨ f = 4 ∨ f = 5 ∨ f = 6 ∨ f = 7 := by omega

theorem enc_R (x f g : Int) (hx : 0 ≤ x) (hx' : x < 4294967296) (ho : x % 128 = 51) (hf : x / 4096 % 8 = f) (hg : x / 33554432 % 128 = g) : 51 + f * 4096 + g * 33554432 + x / 128 % 32 * 128 + x / 32768 % 32 * 32768 + x / 1048576 % 32 * 1048576 + 0 = x := by
  obtain ⟨o, a0, a1, f', b, c0, c1, d0, d1, e, h1, h2, h3, h4, h5, h6, h7, h8, h9, h10, h11, h12, h13, h14, h15, h16, h17, h18⟩ := digits x hx hx'
  have k0 : x / 128 % 32 = a0 + 2 * a1 := by omega
  have k2 : x / 4096 % 8 = f' := by omega
  have k3 : x / 32768 % 32 = b := by omega
  have k4 : x / 1048576 % 32 = c0 + 2 * c1 := by omega
  have k5 : x % 128 = o := by omega
  have k6 : x / 33554432 % 128 = d0 + 64 * d1 := by omega
  rw [k0, k3, k4]
  omega

theorem enc_H (x f g : Int) (hx : 0 ≤ x) (hx' : x < 4294967296) (ho : x % 128 = 19) (hf : x / 4096 % 8 = f) (hg : x / 33554432 % 128 = g) : 19 + f * 4096 + g * 33554432 + x / 128 % 32 * 128 + x / 32768 % 32 * 32768 + 0 * 1048576 + fld (x / 1048576 % 32) 0 5 * 1048576 = x := by
  have e2 : ∀ v, fld v 0 5 = v % 32 := fun v => by simp [fld]
  rw [e2]
  obtain ⟨o, a0, a1, f', b, c0, c1, d0, d1, e, h1, h2, h3, h4, h5, h6, h7, h8, h9, h10, h11, h12, h13, h14, h15, h16, h17, h18⟩ := digits x hx hx'
  have k0 : x / 128 % 32 = a0 + 2 * a1 := by omega
  have k2 : x / 4096 % 8 = f' := by omega
  have k3 : x / 32768 % 32 = b := by omega
  have k4 : x / 1048576 % 32 = c0 + 2 * c1 := by omega
  have k5 : x % 128 = o := by omega
  have k6 : x / 33554432 % 128 = d0 + 64 * d1 := by omega
  rw [k0, k3, k4]
  omega

theorem enc5_mk (op rd r1 r2 im m f : Int) (h1 : rowM op = m) (h2 : formN op = f) : enc5 ⟨op, rd, r1, r2, im⟩ = m + rd * 128 + r1 * 32768 + r2 * 1048576 + putImm f im := by
  unfold enc5; rw [h1, h2]

/-- A word's instruction, as the machine decodes it; of the operation 0, if there is none. -/
def decP (x : Int) : In5 :=
  if x % 128 = 55 then ⟨1, x / 128 % 32, 0, 0, jU x⟩
  else if x % 128 = 23 then ⟨2, x / 128 % 32, 0, 0, jU x⟩
  else if x % 128 = 111 then ⟨3, x / 128 % 32, 0, 0, jJ x⟩
  else if x % 128 = 99 then ⟨brOp (x / 4096 % 8), 0, x / 32768 % 32, x / 1048576 % 32, jB x⟩
  else if x % 128 = 35 then ⟨stOp (x / 4096 % 8), 0, x / 32768 % 32, x / 1048576 % 32, jS x⟩
  else if x % 128 = 19 then (if x / 4096 % 8 = 1 ∨ x / 4096 % 8 = 5 then ⟨shOp (x / 4096 % 8) (x / 33554432 % 128), x / 128 % 32, x / 32768 % 32, 0, x / 1048576 % 32⟩ else ⟨nuOp 19 (x / 4096 % 8), x / 128 % 32, x / 32768 % 32, 0, jI x⟩)
  else if x % 128 = 103 then ⟨nuOp 103 (x / 4096 % 8), x / 128 % 32, x / 32768 % 32, 0, jI x⟩
  else if x % 128 = 3 then ⟨nuOp 3 (x / 4096 % 8), x / 128 % 32, x / 32768 % 32, 0, jI x⟩
  else if x % 128 = 51 then ⟨rgOp (x / 4096 % 8) (x / 33554432 % 128), x / 128 % 32, x / 32768 % 32, x / 1048576 % 32, 0⟩
  else if x % 128 = 15 ∨ x % 128 = 115 then ⟨baOp x (x % 128) (x / 4096 % 8), 0, 0, 0, 0⟩
  else none5

theorem enc_dec (x : Int) (hx : 0 ≤ x) (hx' : x < 4294967296) (h0 : (decP x).op ≠ 0) (h38 : (decP x).op ≠ 38) : enc5 (decP x) = x := by
  unfold decP at *
  have hf := f8 (x / 4096 % 8) (by omega) (by omega)
  by_cases h1 : x % 128 = 55
  · rw [if_pos h1]; exact enc_U x 55 hx hx' h1
  rw [if_neg h1] at h0 h38 ⊢
  by_cases h2 : x % 128 = 23
  · rw [if_pos h2]; exact enc_U x 23 hx hx' h2
  rw [if_neg h2] at h0 h38 ⊢
  by_cases h3 : x % 128 = 111
  · rw [if_pos h3]; exact enc_J x hx hx' h3
  rw [if_neg h3] at h0 h38 ⊢
  by_cases h4 : x % 128 = 99
  · rw [if_pos h4] at h0 h38 ⊢
    rcases hf with f | f | f | f | f | f | f | f
    all_goals
      have k := enc_B x _ hx hx' h4 f
      rw [f] at h0 ⊢
      first | exact absurd rfl h0 | exact (enc5_mk _ _ _ _ _ _ _ rfl rfl).trans k
  rw [if_neg h4] at h0 h38 ⊢
  by_cases h5 : x % 128 = 35
  · rw [if_pos h5] at h0 h38 ⊢
    rcases hf with f | f | f | f | f | f | f | f
    all_goals
      have k := enc_S x _ hx hx' h5 f
      rw [f] at h0 ⊢
      first | exact absurd rfl h0 | exact (enc5_mk _ _ _ _ _ _ _ rfl rfl).trans k
  rw [if_neg h5] at h0 h38 ⊢
  by_cases h6 : x % 128 = 19
  · rw [if_pos h6] at h0 h38 ⊢
    by_cases h7 : x / 4096 % 8 = 1 ∨ x / 4096 % 8 = 5
    · rw [if_pos h7] at h0 h38 ⊢
      have k := fun f g hf hg => enc_H x f g hx hx' h6 hf hg
      rcases h7 with f | f
      all_goals
        rw [f] at h0 ⊢
        by_cases g0 : x / 33554432 % 128 = 0
        · rw [g0] at h0 ⊢; exact (enc5_mk _ _ _ _ _ _ _ rfl rfl).trans (k _ _ f g0)
        · by_cases g1 : x / 33554432 % 128 = 32
          · rw [g1] at h0 ⊢
            first | exact absurd rfl h0 | exact (enc5_mk _ _ _ _ _ _ _ rfl rfl).trans (k _ _ f g1)
          · exact absurd (by simp [shOp, g0, g1]) h0
    · rw [if_neg h7] at h0 h38 ⊢
      rcases hf with f | f | f | f | f | f | f | f
      all_goals
        have k := enc_I x _ _ hx hx' h6 f
        rw [f] at h0 h7 ⊢
        first | exact absurd rfl h0 | exact absurd (Or.inl rfl) h7 | exact absurd (Or.inr rfl) h7 | exact (enc5_mk _ _ _ _ _ _ _ rfl rfl).trans k
  rw [if_neg h6] at h0 h38 ⊢
  by_cases h7 : x % 128 = 103
  · rw [if_pos h7] at h0 h38 ⊢
    rcases hf with f | f | f | f | f | f | f | f
    all_goals
      have k := enc_I x _ _ hx hx' h7 f
      rw [f] at h0 ⊢
      first | exact absurd rfl h0 | exact (enc5_mk _ _ _ _ _ _ _ rfl rfl).trans k
  rw [if_neg h7] at h0 h38 ⊢
  by_cases h8 : x % 128 = 3
  · rw [if_pos h8] at h0 h38 ⊢
    rcases hf with f | f | f | f | f | f | f | f
    all_goals
      have k := enc_I x _ _ hx hx' h8 f
      rw [f] at h0 ⊢
      first | exact absurd rfl h0 | exact (enc5_mk _ _ _ _ _ _ _ rfl rfl).trans k
  rw [if_neg h8] at h0 h38 ⊢
  by_cases h9 : x % 128 = 51
  · rw [if_pos h9] at h0 h38 ⊢
    have k := fun f g hf hg => enc_R x f g hx hx' h9 hf hg
    by_cases g0 : x / 33554432 % 128 = 0
    · rw [g0] at h0 ⊢
      rcases hf with f | f | f | f | f | f | f | f
      all_goals
        have k' := k _ _ f g0
        rw [f] at h0 ⊢
        first | exact absurd rfl h0 | exact (enc5_mk _ _ _ _ _ _ _ rfl rfl).trans k'
    · by_cases g1 : x / 33554432 % 128 = 1
      · rw [g1] at h0 ⊢
        rcases hf with f | f | f | f | f | f | f | f
        all_goals
          have k' := k _ _ f g1
          rw [f] at h0 ⊢
          first | exact absurd rfl h0 | exact (enc5_mk _ _ _ _ _ _ _ rfl rfl).trans k'
      · by_cases g2 : x / 33554432 % 128 = 32
        · rw [g2] at h0 ⊢
          rcases hf with f | f | f | f | f | f | f | f
          all_goals
            have k' := k _ _ f g2
            rw [f] at h0 ⊢
            first | exact absurd rfl h0 | exact (enc5_mk _ _ _ _ _ _ _ rfl rfl).trans k'
        · exact absurd (by simp [rgOp, g0, g1, g2]) h0
  rw [if_neg h9] at h0 h38 ⊢
  by_cases h10 : x % 128 = 15 ∨ x % 128 = 115
  · rw [if_pos h10] at h0 h38 ⊢
    by_cases b1 : x % 128 = 15 ∧ x / 4096 % 8 = 0
    · exact absurd (by simp [baOp, b1]) h38
    · by_cases b2 : x = 115
      · subst b2; rfl
      · by_cases b3 : x = 1048691
        · subst b3; rfl
        · exact absurd (by simp only [baOp]; rw [if_neg b1, if_neg b2, if_neg b3]) h0
  rw [if_neg h10] at h0
  exact absurd rfl h0

end Go.Proofs.YtdgmdkkockbkjaaGreatDoor
