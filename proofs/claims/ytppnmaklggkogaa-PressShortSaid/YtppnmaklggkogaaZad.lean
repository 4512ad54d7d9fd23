/- Parts of the proof, one behind the other. -/
import Derived.Test.YtppnmaklggkogaaZac
/- Contracts of package slim: first. -/
namespace Go.Proofs.Ytppnmaklggkogaa
open Go.RowKit
set_option linter.unusedVariables false
set_option linter.unusedSimpArgs false

def rsN : List (Int × Int) := [(5, 1), (10, 3), (6, 1)]

theorem okN : ∀ r ∈ rsN, runOk r := by
  intro r hr
  simp [rsN] at hr
  rcases hr with rfl | rfl | rfl <;> exact ⟨by decide, by decide, by decide, by decide⟩

def rsU : List (Int × Int) := [(7, 4), (11, 2), (5, 1), (6, 1)]

theorem okU : ∀ r ∈ rsU, runOk r := by
  intro r hr
  simp [rsU] at hr
  rcases hr with rfl | rfl | rfl | rfl <;> exact ⟨by decide, by decide, by decide, by decide⟩

def nearP (x : Int) : Int := runsV x 0 rsN * 4 % 4294967296

def uP (x : Int) : Int := runsV x 0 rsU * 4 % 4294967296

theorem near_bd (x : Int) : 0 ≤ nearP x ∧ nearP x < 2048 := by
  have a1 := fld_nonneg x 5 1
  have b1 : fld x 5 1 < 2 := fld_lt x 5 1
  have a2 := fld_nonneg x 10 3
  have b2 : fld x 10 3 < 8 := fld_lt x 10 3
  have a3 := fld_nonneg x 6 1
  have b3 : fld x 6 1 < 2 := fld_lt x 6 1
  show 0 ≤ (((0 * 2 ^ 1 % 4294967296 + fld x 5 1) * 2 ^ 3 % 4294967296 + fld x 10 3) * 2 ^ 1 % 4294967296 + fld x 6 1) * 4 % 4294967296 ∧ (((0 * 2 ^ 1 % 4294967296 + fld x 5 1) * 2 ^ 3 % 4294967296 + fld x 10 3) * 2 ^ 1 % 4294967296 + fld x 6 1) * 4 % 4294967296 < 2048
  omega

theorem u_bd (x : Int) : 0 ≤ uP x ∧ uP x < 2048 := by
  have a1 := fld_nonneg x 7 4
  have b1 : fld x 7 4 < 16 := fld_lt x 7 4
  have a2 := fld_nonneg x 11 2
  have b2 : fld x 11 2 < 4 := fld_lt x 11 2
  have a3 := fld_nonneg x 5 1
  have b3 : fld x 5 1 < 2 := fld_lt x 5 1
  have a4 := fld_nonneg x 6 1
  have b4 : fld x 6 1 < 2 := fld_lt x 6 1
  show 0 ≤ ((((0 * 2 ^ 4 % 4294967296 + fld x 7 4) * 2 ^ 2 % 4294967296 + fld x 11 2) * 2 ^ 1 % 4294967296 + fld x 5 1) * 2 ^ 1 % 4294967296 + fld x 6 1) * 4 % 4294967296 ∧ ((((0 * 2 ^ 4 % 4294967296 + fld x 7 4) * 2 ^ 2 % 4294967296 + fld x 11 2) * 2 ^ 1 % 4294967296 + fld x 5 1) * 2 ^ 1 % 4294967296 + fld x 6 1) * 4 % 4294967296 < 2048
  omega

def fstI (x f r1 r2 : Int) : In5 := if f = 0 then (if uP x = 0 then none5 else ⟨19, r2, 2, 0, uP x⟩) else if f = 2 then ⟨13, r2, r1, 0, nearP x⟩ else if f = 6 then ⟨18, 0, r1, r2, nearP x⟩ else none5

theorem par_res {w w2 : World} {T T' : TypeId} {p0 p1 p2 p3 p4 p5 p6 p7 p8 p9 p10 p11 p12 a b c d e : Value} (h : Nx ((w.alloc (.cells #[p0, p1, p2, p3, p4, p5, p6, p7, p8, p9, p10, p11, p12] T')).alloc (.cells #[a, b, c, d, e] T)) w2) :
    w2.cell? ⟨w.heap.size, 1, none⟩ = some p1 ∧ w2.cell? ⟨w.heap.size, 2, none⟩ = some p2 ∧ w2.cell? ⟨w.heap.size, 3, none⟩ = some p3 ∧ w2.cell? ⟨w.heap.size, 4, none⟩ = some p4 ∧ w2.cell? ⟨w.heap.size, 5, none⟩ = some p5 ∧ w2.cell? ⟨w.heap.size, 6, none⟩ = some p6 ∧
    w2.cell? ⟨w.heap.size, 7, none⟩ = some p7 ∧ w2.cell? ⟨w.heap.size, 8, none⟩ = some p8 ∧ w2.cell? ⟨w.heap.size, 9, none⟩ = some p9 ∧ w2.cell? ⟨w.heap.size, 10, none⟩ = some p10 := by
  refine ⟨?_, ?_, ?_, ?_, ?_, ?_, ?_, ?_, ?_, ?_⟩ <;> exact h.cell (by simp [go_sem])

end Go.Proofs.Ytppnmaklggkogaa

/- Contracts of package slim: second. -/
namespace Go.Proofs.Ytppnmaklggkogaa
open Go.RowKit
set_option linter.unusedVariables false
set_option linter.unusedSimpArgs false

def rsB : List (Int × Int) := [(12, 1), (5, 2), (2, 1), (10, 2), (3, 2)]

theorem okB : ∀ r ∈ rsB, runOk r := by
  intro r hr
  simp [rsB] at hr
  rcases hr with rfl | rfl | rfl | rfl | rfl <;> exact ⟨by decide, by decide, by decide, by decide⟩

def brP (x : Int) : Int := sgn (runsV x 0 rsB * 2 % 4294967296) 9

def sndI (x f rd r1 r2 b12 n6 j sh kd ls : Int) : In5 :=
  if f = 0 then ⟨19, rd, rd, 0, n6⟩ else if f = 1 then ⟨3, 1, 0, 0, j⟩ else if f = 2 then ⟨19, rd, 0, 0, n6⟩ else if f = 3 then uppI x rd n6
  else if f = 4 then recI r1 r2 b12 n6 sh kd ls else if f = 5 then ⟨3, 0, 0, 0, j⟩ else if f = 6 then ⟨5, 0, r1, 0, brP x⟩ else ⟨6, 0, r1, 0, brP x⟩

end Go.Proofs.Ytppnmaklggkogaa

/- Contracts of package slim: third. -/
namespace Go.Proofs.Ytppnmaklggkogaa
open Go.RowKit
set_option linter.unusedVariables false
set_option linter.unusedSimpArgs false

def rsL : List (Int × Int) := [(2, 2), (12, 1), (4, 3)]

theorem okL : ∀ r ∈ rsL, runOk r := by
  intro r hr
  simp [rsL] at hr
  rcases hr with rfl | rfl | rfl <;> exact ⟨by decide, by decide, by decide, by decide⟩

def rsS : List (Int × Int) := [(7, 2), (9, 4)]

theorem okS : ∀ r ∈ rsS, runOk r := by
  intro r hr
  simp [rsS] at hr
  rcases hr with rfl | rfl <;> exact ⟨by decide, by decide, by decide, by decide⟩

def lsP (x : Int) : Int := runsV x 0 rsL * 4 % 4294967296

def ssP (x : Int) : Int := runsV x 0 rsS * 4 % 4294967296

theorem ls_bd (x : Int) : 0 ≤ lsP x ∧ lsP x < 2048 := by
  have a1 := fld_nonneg x 2 2
  have b1 : fld x 2 2 < 4 := fld_lt x 2 2
  have a2 := fld_nonneg x 12 1
  have b2 : fld x 12 1 < 2 := fld_lt x 12 1
  have a3 := fld_nonneg x 4 3
  have b3 : fld x 4 3 < 8 := fld_lt x 4 3
  show 0 ≤ (((0 * 2 ^ 2 % 4294967296 + fld x 2 2) * 2 ^ 1 % 4294967296 + fld x 12 1) * 2 ^ 3 % 4294967296 + fld x 4 3) * 4 % 4294967296 ∧ (((0 * 2 ^ 2 % 4294967296 + fld x 2 2) * 2 ^ 1 % 4294967296 + fld x 12 1) * 2 ^ 3 % 4294967296 + fld x 4 3) * 4 % 4294967296 < 2048
  omega

theorem ss_bd (x : Int) : 0 ≤ ssP x ∧ ssP x < 2048 := by
  have a1 := fld_nonneg x 7 2
  have b1 : fld x 7 2 < 4 := fld_lt x 7 2
  have a2 := fld_nonneg x 9 4
  have b2 : fld x 9 4 < 16 := fld_lt x 9 4
  show 0 ≤ ((0 * 2 ^ 2 % 4294967296 + fld x 7 2) * 2 ^ 4 % 4294967296 + fld x 9 4) * 4 % 4294967296 ∧ ((0 * 2 ^ 2 % 4294967296 + fld x 7 2) * 2 ^ 4 % 4294967296 + fld x 9 4) * 4 % 4294967296 < 2048
  omega

def thdI (x f rd rs2 b12 sh : Int) : In5 :=
  if f = 0 then (if b12 = 0 then ⟨25, rd, rd, 0, sh⟩ else none5) else if f = 2 then (if rd = 0 then none5 else ⟨13, rd, 2, 0, lsP x⟩) else if f = 4 then movI rd rs2 b12
  else if f = 6 then ⟨18, 0, 2, rs2, ssP x⟩ else none5

end Go.Proofs.Ytppnmaklggkogaa

/- Contracts of package slim: Expand. -/
namespace Go.Proofs.Ytppnmaklggkogaa
open Go.RowKit
set_option linter.unusedVariables false
set_option linter.unusedSimpArgs false

/-- What a parcel stands for; of the operation 0: nothing. -/
def expI (x : Int) : In5 :=
  if fld x 0 2 = 0 then fstI x (fld x 13 3) (8 + fld x 7 3) (8 + fld x 2 3)
  else if fld x 0 2 = 1 then sndI x (fld x 13 3) (fld x 7 5) (8 + fld x 7 3) (8 + fld x 2 3) (fld x 12 1) (n6P x) (jP x) (fld x 2 5) (fld x 10 2) (fld x 5 2)
  else if fld x 0 2 = 2 then thdI x (fld x 13 3) (fld x 7 5) (fld x 2 5) (fld x 12 1) (fld x 2 5)
  else none5

def expJ (x : Int) : In5 := if (expI x).op = 0 then none5 else expI x

theorem n6_bd (x : Int) : -32 ≤ n6P x ∧ n6P x ≤ 31 := by
  have := sgn_range (runsV x 0 [(12, 1), (2, 5)] % 4294967296) 6
  have e : (2 : Int) ^ 6 = 64 := by decide
  unfold n6P
  omega

end Go.Proofs.Ytppnmaklggkogaa

