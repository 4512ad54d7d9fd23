/- Parts of the proof, one behind the other. -/
import Derived.OpenShut
import Derived.Test.YtndpgakjpokllaaGreatZsag
import Derived.Test.YtndpgakjpokllaaGreatZsah
import Derived.Test.YtndpgakjpokllaaGreatZsai
import Derived.Test.YtndpgakjpokllaaGreatZsaj
import Derived.Test.YtndpgakjpokllaaGreatZsao
import Derived.Test.YtndpgakjpokllaaGreatZsaq
import Derived.Test.YtndpgakjpokllaaGreatZsbi
/- A step of the machine, plain. -/
namespace Go.Proofs.YtndpgakjpokllaaGreat
open Go.RowKit
set_option linter.unusedVariables false
set_option linter.unusedSimpArgs false

/-- What is fetched; the instruction 0 if nothing is. -/
def fetI (M : Int → Int) (pc : Int) : In5 :=
  if loadM M pc 2 % 4 = 3 then (if loadM M pc 2 / 4 % 8 = 7 then none5 else decJ (loadM M pc 4)) else expI (loadM M pc 2)

/-- Its size. -/
def fetN (M : Int → Int) (pc : Int) : Int := if (fetI M pc).op = 0 then 0 else if loadM M pc 2 % 4 = 3 then 4 else 2

theorem fet_may (M : Int → Int) (pc : Int) (h : (fetI M pc).op ≠ 0) : mayB (fetI M pc).op (fetI M pc).rd (fetI M pc).rs1 (fetI M pc).rs2 (fetI M pc).imm = true := by
  unfold fetI at h ⊢
  by_cases h3 : loadM M pc 2 % 4 = 3
  · rw [if_pos h3] at h ⊢
    by_cases h7 : loadM M pc 2 / 4 % 8 = 7
    · rw [if_pos h7] at h
      exact absurd rfl h
    · rw [if_neg h7] at h ⊢
      refine may_decJ _ ?_
      rw [beq_eq_false_iff_ne]
      intro h0
      unfold decJ at h
      rw [if_pos h0] at h
      exact h rfl
  · rw [if_neg h3] at h ⊢
    exact exp_may _ (beq_eq_false_iff_ne.2 h)

theorem fet_imm (M : Int → Int) (pc : Int) : -2147483648 ≤ (fetI M pc).imm ∧ (fetI M pc).imm ≤ 2147483647 := by
  unfold fetI
  by_cases h3 : loadM M pc 2 % 4 = 3
  · rw [if_pos h3]
    by_cases h7 : loadM M pc 2 / 4 % 8 = 7
    · rw [if_pos h7]; exact ⟨by decide, by decide⟩
    · rw [if_neg h7]; exact dec_imm_bd _
  · rw [if_neg h3]; exact exp_imm _

theorem fet_none (M : Int → Int) (pc : Int) (h : (fetI M pc).op = 0) : fetI M pc = none5 := by
  unfold fetI at h ⊢
  by_cases h3 : loadM M pc 2 % 4 = 3
  · rw [if_pos h3] at h ⊢
    by_cases h7 : loadM M pc 2 / 4 % 8 = 7
    · rw [if_pos h7]
    · rw [if_neg h7] at h ⊢
      unfold decJ at h ⊢
      by_cases h0 : (decP (loadM M pc 4)).op = 0
      · rw [if_pos h0]
      · rw [if_neg h0] at h; exact absurd h h0
  · rw [if_neg h3] at h ⊢
    rcases ok_exp (loadM M pc 2) with h1 | ⟨h1, _⟩
    · exact h1
    · omega

theorem reg_bd {n : Int} {c : Bool} (h : regB n c = true) : 0 ≤ n ∧ n ≤ 31 := by
  unfold regB at h
  cases c
  · simp at h; omega
  · simp at h; exact h

theorem may_regs {op rd rs1 rs2 imm : Int} (h : mayB op rd rs1 rs2 imm = true) : (0 ≤ rd ∧ rd ≤ 31) ∧ (0 ≤ rs1 ∧ rs1 ≤ 31) ∧ (0 ≤ rs2 ∧ rs2 ≤ 31) := by
  simp only [mayB, Bool.and_eq_true] at h
  exact ⟨reg_bd h.2.1, reg_bd h.2.2.1, reg_bd h.2.2.2.1⟩

/-- Registers: 32 words. -/
def GoodR (rg : List Int) : Prop := rg.length = 32 ∧ ∀ x ∈ rg, 0 ≤ x ∧ x < 4294967296

def getR (rg : List Int) (r : Int) : Int := rg.getD r.toNat 0

def setR (rg : List Int) (r v : Int) : List Int := if r = 0 then rg else rg.set r.toNat v

theorem getR_bd {rg : List Int} (h : GoodR rg) (r : Int) : 0 ≤ getR rg r ∧ getR rg r < 4294967296 := by
  unfold getR
  rw [List.getD_eq_getElem?_getD]
  cases e : rg[r.toNat]? with
  | none => simp
  | some x => exact h.2 x (List.mem_of_getElem? e)

theorem setR_good {rg : List Int} (h : GoodR rg) (r v : Int) (v0 : 0 ≤ v) (v1 : v < 4294967296) : GoodR (setR rg r v) := by
  unfold setR
  split
  · exact h
  · refine ⟨by rw [List.length_set]; exact h.1, fun x hx => ?_⟩
    rcases List.mem_or_eq_of_mem_set hx with hx | rfl
    · exact h.2 x hx
    · exact ⟨v0, v1⟩

theorem bits_bd (op : BinOp) (x y : Int) : 0 ≤ bits op .u32 x y ∧ bits op .u32 x y < 4294967296 := by
  have := bounds_u32 (wf_bits op .u32 x y)
  omega

theorem val_bd (op a b pc imm size : Int) (a0 : 0 ≤ a) (a1 : a < 4294967296) (b0 : 0 ≤ b) (b1 : b < 4294967296) : 0 ≤ valV op a b pc imm size ∧ valV op a b pc imm size < 4294967296 := by
  have hd : ∀ (n : Nat), 0 ≤ a / 2 ^ n ∧ a / 2 ^ n < 4294967296 := fun n => by
    have hp : (0 : Int) < 2 ^ n := Int.pow_pos (by decide)
    have h1 := Int.ediv_nonneg a0 (Int.le_of_lt hp)
    have h2 := Int.ediv_le_self (2 ^ n) a0
    omega
  have rec_bd : ∀ y : Int, 0 ≤ recV op a y ∧ recV op a y < 4294967296 := fun y => by
    unfold recV
    have hx := bits_bd .xor a y
    have ho := bits_bd .or a y
    have hn := bits_bd .and a y
    have hl : ∀ p q : Int, 0 ≤ ltI p q ∧ ltI p q < 4294967296 := fun p q => by unfold ltI; split <;> omega
    have hm : ∀ s t, 0 ≤ mulh a y s t ∧ mulh a y s t < 4294967296 := fun s t => by unfold mulh; omega
    have hv : ∀ s, 0 ≤ dv a y s ∧ dv a y s < 4294967296 := fun s => by unfold dv; split <;> omega
    have hr : ∀ s, 0 ≤ rm a y s ∧ rm a y s < 4294967296 := fun s => by unfold rm; split <;> omega
    have h1 := hl (wrap32 a) (wrap32 y)
    have h2 := hl a y
    have h3 := hd (y % 32).toNat
    have h4 := hm true true
    have h5 := hm true false
    have h6 := hm false false
    have h7 := hv true
    have h8 := hv false
    have h9 := hr true
    have h10 := hr false
    repeat' (first | assumption | omega | split)
  unfold valV
  split
  · omega
  · split
    · omega
    · split
      · omega
      · exact rec_bd _

theorem valX_bd (m : Bool) (op a b pc imm size : Int) (a0 : 0 ≤ a) (a1 : a < 4294967296) (b0 : 0 ≤ b) (b1 : b < 4294967296) : 0 ≤ valX m op a b pc imm size ∧ valX m op a b pc imm size < 4294967296 := by
  unfold valX
  split
  · exact val_bd op a b pc imm size a0 a1 b0 b1
  · omega

theorem nextX_bd (m : Bool) (op a b pc imm size : Int) : 0 ≤ nextX m op a b pc imm size ∧ nextX m op a b pc imm size < 4294967296 := by
  unfold nextX nextV
  split
  · split
    · exact bits_bd _ _ _
    · split <;> omega
  · omega

theorem accA_bd (op a imm : Int) : 0 ≤ accA op a imm ∧ accA op a imm < 4294967296 := by
  unfold accA
  split <;> omega

/-- The classes of operations. -/
theorem acc_store {op : Int} (h : accS op = true) : 0 < accN op ∧ accN op ≤ 4 ∧ valO op = false ∧ accG op = false := by
  simp only [accS, Bool.and_eq_true, decide_eq_true_eq] at h
  obtain rfl | rfl | rfl : op = 16 ∨ op = 17 ∨ op = 18 := by omega
  all_goals decide

theorem acc_n (op : Int) : accN op = 0 ∨ accN op = 1 ∨ accN op = 2 ∨ accN op = 4 := by
  unfold accN
  repeat' (first | split | omega)

/-- What is loaded. -/
def ldP (M : Int → Int) (a n : Int) (sg : Bool) : Int := if sg = true then sgn (loadM M a n.toNat) (cl (8 * n)) % 4294967296 else loadM M a n.toNat

theorem load_u32 {M : Int → Int} (h : Bytes M) (a : Int) (n : Nat) (hn : n ≤ 4) : 0 ≤ loadM M a n ∧ loadM M a n < 4294967296 := by
  obtain ⟨h1, h2⟩ := loadM_bounds h a n
  refine ⟨h1, ?_⟩
  obtain rfl | rfl | rfl | rfl | rfl : n = 0 ∨ n = 1 ∨ n = 2 ∨ n = 3 ∨ n = 4 := by omega
  all_goals omega

theorem ldP_bd {M : Int → Int} (h : Bytes M) (a n : Int) (sg : Bool) (hn : n ≤ 4) : 0 ≤ ldP M a n sg ∧ ldP M a n sg < 4294967296 := by
  unfold ldP
  split
  · omega
  · exact load_u32 h a n.toNat (by omega)

theorem upd_bytes {M : Int → Int} (h : Bytes M) (a v : Int) (v0 : 0 ≤ v) (v1 : v < 256) : Bytes (updM M a v) := fun x h0 h1 => by
  unfold updM
  split
  · exact ⟨v0, v1⟩
  · exact h x h0 h1

theorem store_bytes {M : Int → Int} (h : Bytes M) (a v : Int) : ∀ n, Bytes (storeM M a v n)
  | 0 => h
  | n + 1 => upd_bytes (store_bytes h a v n) _ _ (by omega) (by omega)

/-- What a step comes to: 0 it went, 1, 2, 3 it traps. -/
def stepO (M : Int → Int) (pc : Int) : Int := if (fetI M pc).op = 0 then 3 else if (fetI M pc).op = 39 then 1 else if (fetI M pc).op = 40 then 2 else 0

/-- The state of a machine. -/
structure MSt where
  rg : List Int
  pc : Int
  M : Int → Int

/-- The state behind an instruction that goes. -/
def goP (s : MSt) (i : In5) (n : Int) : MSt :=
  { rg := if accS i.op = true then s.rg else if 0 < accN i.op then setR s.rg i.rd (ldP s.M (accA i.op (getR s.rg i.rs1) i.imm) (accN i.op) (accG i.op))
          else if valO i.op = true then setR s.rg i.rd (valV i.op (getR s.rg i.rs1) (getR s.rg i.rs2) s.pc i.imm n) else s.rg
    pc := nextV i.op (getR s.rg i.rs1) (getR s.rg i.rs2) s.pc i.imm n
    M := if accS i.op = true then storeM s.M (accA i.op (getR s.rg i.rs1) i.imm) (getR s.rg i.rs2) (accN i.op).toNat else s.M }

/-- The state behind a step. -/
def stepP (s : MSt) : MSt := if stepO s.M s.pc = 0 then goP s (fetI s.M s.pc) (fetN s.M s.pc) else s

/-- A good state. -/
def Good (s : MSt) : Prop := GoodR s.rg ∧ 0 ≤ s.pc ∧ s.pc < 4294967296 ∧ Bytes s.M

theorem nextV_bd (op a b pc imm size : Int) : 0 ≤ nextV op a b pc imm size ∧ nextV op a b pc imm size < 4294967296 := nextX_bd true op a b pc imm size

/-- So many steps: how many went, and what the last one came to. -/
def runP : Nat → MSt → Nat × Int × MSt
  | 0, s => (0, 0, s)
  | k + 1, s => if stepO s.M s.pc = 0 then ((runP k (stepP s)).1 + 1, (runP k (stepP s)).2) else (0, stepO s.M s.pc, s)

end Go.Proofs.YtndpgakjpokllaaGreat

