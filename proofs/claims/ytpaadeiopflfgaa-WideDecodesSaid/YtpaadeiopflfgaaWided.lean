/- Contracts of package wide: a word's instruction, all cases. -/
import Derived.Test.YtpaadeiopflfgaaWidec
namespace Go.Proofs.Ytpaadeiopflfgaa
open Go.RowKit
set_option linter.unusedVariables false

def known (o : Int) : Bool := o == 55 || o == 23 || o == 111 || o == 99 || o == 35 || o == 19 || o == 103 || o == 3 || o == 51 || o == 15 || o == 115

set_option maxHeartbeats 1000000 in
theorem decoded_none (x : Int) (w : World) (hx : 0 ≤ x) (hx' : x < 4294967296) (ho : known (fld x 0 7) = false) :
    Calls Try.prog 21 #[.int .u32 x] w fun e w' => e = .returned (.agg #[.int .i64 0, .int .i64 0, .int .i64 0, .int .i64 0, .int .i32 0]) ∧ Nx w w' := by
  simp only [known, Bool.or_eq_false_iff] at ho
  obtain ⟨⟨⟨⟨⟨⟨⟨⟨⟨⟨h1, h2⟩, h3⟩, h4⟩, h5⟩, h6⟩, h7⟩, h8⟩, h9⟩, h10⟩, h11⟩ := ho
  go_enter Try.func21, Try.ntmps21
  go_wp2_with fail
  refine (split_any _ _ hx hx').mono ?_
  rintro e w1 ⟨rfl, hn⟩
  obtain ⟨c0, c1, c2, c3, c4, z0, z1, z2, z3, z4, hz⟩ := five_cells hn
  have hb := Lib.hid (((Nx.refl w).alloc _).trans hn)
  go_wp2
  refine bodyPost_ret (v := .agg #[.int .i64 0, .int .i64 0, .int .i64 0, .int .i64 0, .int .i32 0]) (by simp [results, Try.results21, go_sem, c0, c1, c2, c3, c4, hz]) rfl ⟨rfl, ?_⟩
  refine Nx.alloc ?_ _
  repeat (refine Nx.setCell ?_ (Nat.le_refl _) _)
  exact hb.out

def dec (x : Int) : In5 :=
  if fld x 0 7 = 55 then ⟨1, fld x 7 5, 0, 0, immU x⟩
  else if fld x 0 7 = 23 then ⟨2, fld x 7 5, 0, 0, immU x⟩
  else if fld x 0 7 = 111 then ⟨3, fld x 7 5, 0, 0, immJ x⟩
  else if fld x 0 7 = 99 then ⟨brOp (fld x 12 3), 0, fld x 15 5, fld x 20 5, immB x⟩
  else if fld x 0 7 = 35 then ⟨stOp (fld x 12 3), 0, fld x 15 5, fld x 20 5, immS x⟩
  else if fld x 0 7 = 19 then (if fld x 12 3 = 1 ∨ fld x 12 3 = 5 then ⟨shOp (fld x 12 3) (fld x 25 7), fld x 7 5, fld x 15 5, 0, fld x 20 5⟩ else ⟨nuOp 19 (fld x 12 3), fld x 7 5, fld x 15 5, 0, immI x⟩)
  else if fld x 0 7 = 103 then ⟨nuOp 103 (fld x 12 3), fld x 7 5, fld x 15 5, 0, immI x⟩
  else if fld x 0 7 = 3 then ⟨nuOp 3 (fld x 12 3), fld x 7 5, fld x 15 5, 0, immI x⟩
  else if fld x 0 7 = 51 then ⟨rgOp (fld x 12 3) (fld x 25 7), fld x 7 5, fld x 15 5, fld x 20 5, 0⟩
  else if fld x 0 7 = 15 ∨ fld x 0 7 = 115 then ⟨baOp x (fld x 0 7) (fld x 12 3), 0, 0, 0, 0⟩
  else none5

theorem decoded_any (x : Int) (w : World) (hx : 0 ≤ x) (hx' : x < 4294967296) :
    Calls Try.prog 21 #[.int .u32 x] w fun e w' => e = .returned (.agg #[.int .i64 (dec x).op, .int .i64 (dec x).rd, .int .i64 (dec x).rs1, .int .i64 (dec x).rs2, .int .i32 (dec x).imm]) ∧ Nx w w' := by
  unfold dec
  by_cases h1 : fld x 0 7 = 55
  · rw [if_pos h1]; exact decoded_37 x w hx hx' h1
  rw [if_neg h1]
  by_cases h2 : fld x 0 7 = 23
  · rw [if_pos h2]; exact decoded_17 x w hx hx' h2
  rw [if_neg h2]
  by_cases h3 : fld x 0 7 = 111
  · rw [if_pos h3]; exact decoded_6f x w hx hx' h3
  rw [if_neg h3]
  by_cases h4 : fld x 0 7 = 99
  · rw [if_pos h4]; exact decoded_63 x w hx hx' h4
  rw [if_neg h4]
  by_cases h5 : fld x 0 7 = 35
  · rw [if_pos h5]; exact decoded_23 x w hx hx' h5
  rw [if_neg h5]
  by_cases h6 : fld x 0 7 = 19
  · rw [if_pos h6]
    by_cases hf : fld x 12 3 = 1 ∨ fld x 12 3 = 5
    · rw [if_pos hf]; exact decoded_13s x w hx hx' h6 hf
    · rw [if_neg hf]; exact decoded_13n x w hx hx' h6 (beq_eq_false_iff_ne.2 (fun c => hf (Or.inl c))) (beq_eq_false_iff_ne.2 (fun c => hf (Or.inr c)))
  rw [if_neg h6]
  by_cases h7 : fld x 0 7 = 103
  · rw [if_pos h7]; exact decoded_67 x w hx hx' h7
  rw [if_neg h7]
  by_cases h8 : fld x 0 7 = 3
  · rw [if_pos h8]; exact decoded_03 x w hx hx' h8
  rw [if_neg h8]
  by_cases h9 : fld x 0 7 = 51
  · rw [if_pos h9]; exact decoded_33 x w hx hx' h9
  rw [if_neg h9]
  by_cases h10 : fld x 0 7 = 15 ∨ fld x 0 7 = 115
  · rw [if_pos h10]; exact decoded_bare x w hx hx' h10
  rw [if_neg h10]
  refine decoded_none x w hx hx' ?_
  have ha : ¬ fld x 0 7 = 15 := fun c => h10 (Or.inl c)
  have hb : ¬ fld x 0 7 = 115 := fun c => h10 (Or.inr c)
  simp [known, h1, h2, h3, h4, h5, h6, h7, h8, h9, ha, hb]

/-- What Decode hands back: the instruction, or nothing. -/
def decI (x : Int) : In5 := if (dec x).op = 0 then none5 else dec x

set_option maxHeartbeats 1000000 in
theorem decode_any (x : Int) (w : World) (hx : 0 ≤ x) (hx' : x < 4294967296) :
    Calls Try.prog 8 #[.int .u32 x] w fun e w' => e = .returned (.tuple #[.agg #[.int .i64 (decI x).op, .int .i64 (decI x).rd, .int .i64 (decI x).rs1, .int .i64 (decI x).rs2, .int .i32 (decI x).imm], .bool (!((dec x).op == 0))]) ∧ Nx w w' := by
  by_cases h : (dec x).op = 0
  · have h' : ((dec x).op == 0) = true := by rw [beq_iff_eq]; exact h
    have e1 : decI x = none5 := by unfold decI; rw [if_pos h]
    rw [e1, h']
    clear e1 h
    go_enter Try.func8, Try.ntmps8
    go_wp2_with fail
    refine (decoded_any _ _ hx hx').mono ?_
    rintro e w1 ⟨rfl, hn⟩
    obtain ⟨c0, c1, c2, c3, c4, z0, z1, z2, z3, z4, hz⟩ := five_cells hn
    have hb := Lib.hid (((Nx.refl w).alloc _).trans hn)
    go_wp2
    refine bodyPost_ret (v := .tuple #[.agg #[.int .i64 0, .int .i64 0, .int .i64 0, .int .i64 0, .int .i32 0], .bool false]) (by simp [results, Try.results8, go_sem, c0, c1, c2, c3, c4, hz]) rfl ⟨by simp [none5], ?_⟩
    repeat (with_reducible first | refine Nx.alloc ?_ _ | refine Nx.setCell ?_ (Nat.le_refl _) _)
    exact hb.out
  · have h' : ((dec x).op == 0) = false := beq_eq_false_iff_ne.2 h
    have e1 : decI x = dec x := by unfold decI; rw [if_neg h]
    rw [e1, h']
    clear e1
    go_enter Try.func8, Try.ntmps8
    go_wp2_with fail
    refine (decoded_any _ _ hx hx').mono ?_
    rintro e w1 ⟨rfl, hn⟩
    obtain ⟨c0, c1, c2, c3, c4, z0, z1, z2, z3, z4, hz⟩ := five_cells hn
    have hb := Lib.hid (((Nx.refl w).alloc _).trans hn)
    go_wp2
    refine bodyPost_ret (v := .tuple #[.agg #[.int .i64 (dec x).op, .int .i64 (dec x).rd, .int .i64 (dec x).rs1, .int .i64 (dec x).rs2, .int .i32 (dec x).imm], .bool true]) (by simp [results, Try.results8, go_sem, c0, c1, c2, c3, c4, hz]) rfl ⟨rfl, ?_⟩
    repeat (with_reducible first | refine Nx.alloc ?_ _ | refine Nx.setCell ?_ (Nat.le_refl _) _)
    exact hb.out

end Go.Proofs.Ytpaadeiopflfgaa
