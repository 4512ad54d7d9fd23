/- Contracts of package exec: what an operation does with two numbers. -/
import Derived.Test.YtmobkjdbjgopgaaExecp
namespace Go.Proofs.Ytmobkjdbjgopgaa
open Go.RowKit
set_option linter.unusedVariables false
set_option linter.unusedSimpArgs false

theorem ret2_ub {a b : Int} {c d : Bool} (h : a = b) (h' : c = d) : Ending.returned (.tuple #[.int .u32 a, .bool c]) = Ending.returned (.tuple #[.int .u32 b, .bool d]) := by rw [h, h']

set_option maxHeartbeats 400000 in
theorem truth_any (b : Bool) (w : World) : Calls Try.prog 36 #[.bool b] w fun e w' => e = .returned (.int .u32 (if b = true then 1 else 0)) ∧ w = w' := by
  cases b
  all_goals
    go_enter Try.func36, Try.ntmps36
    go_wp2
    go_ret
    exact ⟨rfl, rfl⟩

set_option maxHeartbeats 400000 in
theorem clo_add (a b : Int) (w : World) (a1 : 0 ≤ a) (a2 : a < 4294967296) (b1 : 0 ≤ b) (b2 : b < 4294967296) : Calls Try.prog 33 #[.int .u32 a, .int .u32 b] w fun e w' => e = .returned (.int .u32 ((a + b) % 4294967296)) ∧ w = w' := by
  go_enter Try.func33, Try.ntmps33
  go_wp2_with (go_at_call 36; refine (truth_any _ _).mono ?_; rintro e w' ⟨rfl, rfl⟩)
  all_goals
    go_ret
    exact ⟨rfl, rfl⟩

set_option maxHeartbeats 400000 in
theorem clo_sub (a b : Int) (w : World) (a1 : 0 ≤ a) (a2 : a < 4294967296) (b1 : 0 ≤ b) (b2 : b < 4294967296) : Calls Try.prog 34 #[.int .u32 a, .int .u32 b] w fun e w' => e = .returned (.int .u32 ((a - b) % 4294967296)) ∧ w = w' := by
  go_enter Try.func34, Try.ntmps34
  go_wp2_with (go_at_call 36; refine (truth_any _ _).mono ?_; rintro e w' ⟨rfl, rfl⟩)
  all_goals
    go_ret
    exact ⟨rfl, rfl⟩

set_option maxHeartbeats 400000 in
theorem clo_slt (a b : Int) (w : World) (a1 : 0 ≤ a) (a2 : a < 4294967296) (b1 : 0 ≤ b) (b2 : b < 4294967296) : Calls Try.prog 35 #[.int .u32 a, .int .u32 b] w fun e w' => e = .returned (.int .u32 (ltI (wrap32 a) (wrap32 b))) ∧ w = w' := by
  go_enter Try.func35, Try.ntmps35
  go_wp2_with (go_at_call 36; refine (truth_any _ _).mono ?_; rintro e w' ⟨rfl, rfl⟩)
  all_goals
    go_ret
    exact ⟨ret_u32 (by unfold ltI; split <;> omega), rfl⟩

set_option maxHeartbeats 400000 in
theorem clo_sltu (a b : Int) (w : World) (a1 : 0 ≤ a) (a2 : a < 4294967296) (b1 : 0 ≤ b) (b2 : b < 4294967296) : Calls Try.prog 37 #[.int .u32 a, .int .u32 b] w fun e w' => e = .returned (.int .u32 (ltI a b)) ∧ w = w' := by
  go_enter Try.func37, Try.ntmps37
  go_wp2_with (go_at_call 36; refine (truth_any _ _).mono ?_; rintro e w' ⟨rfl, rfl⟩)
  all_goals
    go_ret
    exact ⟨ret_u32 (by unfold ltI; split <;> omega), rfl⟩

set_option maxHeartbeats 400000 in
theorem clo_xor (a b : Int) (w : World) (a1 : 0 ≤ a) (a2 : a < 4294967296) (b1 : 0 ≤ b) (b2 : b < 4294967296) : Calls Try.prog 38 #[.int .u32 a, .int .u32 b] w fun e w' => e = .returned (.int .u32 (bits .xor .u32 a b)) ∧ w = w' := by
  go_enter Try.func38, Try.ntmps38
  go_wp2_with (go_at_call 36; refine (truth_any _ _).mono ?_; rintro e w' ⟨rfl, rfl⟩)
  all_goals
    go_ret
    exact ⟨rfl, rfl⟩

set_option maxHeartbeats 400000 in
theorem clo_or (a b : Int) (w : World) (a1 : 0 ≤ a) (a2 : a < 4294967296) (b1 : 0 ≤ b) (b2 : b < 4294967296) : Calls Try.prog 39 #[.int .u32 a, .int .u32 b] w fun e w' => e = .returned (.int .u32 (bits .or .u32 a b)) ∧ w = w' := by
  go_enter Try.func39, Try.ntmps39
  go_wp2_with (go_at_call 36; refine (truth_any _ _).mono ?_; rintro e w' ⟨rfl, rfl⟩)
  all_goals
    go_ret
    exact ⟨rfl, rfl⟩

set_option maxHeartbeats 400000 in
theorem clo_and (a b : Int) (w : World) (a1 : 0 ≤ a) (a2 : a < 4294967296) (b1 : 0 ≤ b) (b2 : b < 4294967296) : Calls Try.prog 40 #[.int .u32 a, .int .u32 b] w fun e w' => e = .returned (.int .u32 (bits .and .u32 a b)) ∧ w = w' := by
  go_enter Try.func40, Try.ntmps40
  go_wp2_with (go_at_call 36; refine (truth_any _ _).mono ?_; rintro e w' ⟨rfl, rfl⟩)
  all_goals
    go_ret
    exact ⟨rfl, rfl⟩

set_option maxHeartbeats 400000 in
theorem clo_sll (a b : Int) (w : World) (a1 : 0 ≤ a) (a2 : a < 4294967296) (b1 : 0 ≤ b) (b2 : b < 4294967296) : Calls Try.prog 41 #[.int .u32 a, .int .u32 b] w fun e w' => e = .returned (.int .u32 (a * 2 ^ (b % 32).toNat % 4294967296)) ∧ w = w' := by
  have h31 := and31 b b1 b2
  have k1 : 0 ≤ b % 32 := by omega
  have k2 : b % 32 ≤ 31 := by omega
  have k3 : b % 32 ≤ 32 := by omega
  go_enter Try.func41, Try.ntmps41
  go_wp2_with (go_at_call 36; refine (truth_any _ _).mono ?_; rintro e w' ⟨rfl, rfl⟩)
  all_goals
    go_ret
    exact ⟨rfl, rfl⟩

set_option maxHeartbeats 400000 in
theorem clo_srl (a b : Int) (w : World) (a1 : 0 ≤ a) (a2 : a < 4294967296) (b1 : 0 ≤ b) (b2 : b < 4294967296) : Calls Try.prog 42 #[.int .u32 a, .int .u32 b] w fun e w' => e = .returned (.int .u32 (a / 2 ^ (b % 32).toNat)) ∧ w = w' := by
  have h31 := and31 b b1 b2
  have k1 : 0 ≤ b % 32 := by omega
  have k2 : b % 32 ≤ 31 := by omega
  have k3 : b % 32 ≤ 32 := by omega
  go_enter Try.func42, Try.ntmps42
  go_wp2_with (go_at_call 36; refine (truth_any _ _).mono ?_; rintro e w' ⟨rfl, rfl⟩)
  all_goals
    go_ret
    exact ⟨rfl, rfl⟩

set_option maxHeartbeats 400000 in
theorem clo_sra (a b : Int) (w : World) (a1 : 0 ≤ a) (a2 : a < 4294967296) (b1 : 0 ≤ b) (b2 : b < 4294967296) : Calls Try.prog 43 #[.int .u32 a, .int .u32 b] w fun e w' => e = .returned (.int .u32 ((wrap32 a / 2 ^ (b % 32).toNat) % 4294967296)) ∧ w = w' := by
  have h31 := and31 b b1 b2
  have k1 : 0 ≤ b % 32 := by omega
  have k2 : b % 32 ≤ 31 := by omega
  have k3 : b % 32 ≤ 32 := by omega
  go_enter Try.func43, Try.ntmps43
  go_wp2_with (go_at_call 36; refine (truth_any _ _).mono ?_; rintro e w' ⟨rfl, rfl⟩)
  all_goals
    go_ret
    exact ⟨rfl, rfl⟩

set_option maxHeartbeats 400000 in
theorem clo_mul (a b : Int) (w : World) (a1 : 0 ≤ a) (a2 : a < 4294967296) (b1 : 0 ≤ b) (b2 : b < 4294967296) : Calls Try.prog 50 #[.int .u32 a, .int .u32 b] w fun e w' => e = .returned (.int .u32 (a * b % 4294967296)) ∧ w = w' := by
  go_enter Try.func50, Try.ntmps50
  go_wp2_with (go_at_call 36; refine (truth_any _ _).mono ?_; rintro e w' ⟨rfl, rfl⟩)
  all_goals
    go_ret
    exact ⟨rfl, rfl⟩

set_option maxHeartbeats 400000 in
theorem clo_mulh (a b : Int) (sa sb : Bool) (x y : Nat) (w : World) (a1 : 0 ≤ a) (a2 : a < 4294967296) (b1 : 0 ≤ b) (b2 : b < 4294967296) (hx : w.cell? ⟨x, 0, none⟩ = some (.bool sa)) (hy : w.cell? ⟨y, 0, none⟩ = some (.bool sb)) :
    Calls Try.prog 51 #[.int .u32 a, .int .u32 b, .pointer (some ⟨x, 0, none⟩), .pointer (some ⟨y, 0, none⟩)] w fun e w' => e = .returned (.int .u32 (mulh a b sa sb)) ∧ Nx w w' := by
  go_enter Try.func51, Try.ntmps51
  go_wp2_with (go_at_call 52; refine (mulh_any _ _ _ _ _ a1 a2 b1 b2).mono ?_; rintro e w' ⟨rfl, rfl⟩)
  go_ret
  exact ⟨rfl, Nx.refl _⟩

set_option maxHeartbeats 400000 in
theorem clo_div (a b op : Int) (x : Nat) (w : World) (a1 : 0 ≤ a) (a2 : a < 4294967296) (b1 : 0 ≤ b) (b2 : b < 4294967296) (hx : w.cell? ⟨x, 0, none⟩ = some (.int .i64 op)) :
    Calls Try.prog 53 #[.int .u32 a, .int .u32 b, .pointer (some ⟨x, 0, none⟩)] w fun e w' => e = .returned (.int .u32 (dv a b (op == 45))) ∧ Nx w w' := by
  go_enter Try.func53, Try.ntmps53
  go_wp2_with (go_at_call 54; refine (div_any _ _ _ _ a1 a2 b1 b2).mono ?_; rintro e w' ⟨rfl, n, rfl⟩)
  go_ret
  exact ⟨rfl, (Nx.refl _).drewN _⟩

set_option maxHeartbeats 400000 in
theorem clo_rem (a b op : Int) (x : Nat) (w : World) (a1 : 0 ≤ a) (a2 : a < 4294967296) (b1 : 0 ≤ b) (b2 : b < 4294967296) (hx : w.cell? ⟨x, 0, none⟩ = some (.int .i64 op)) :
    Calls Try.prog 55 #[.int .u32 a, .int .u32 b, .pointer (some ⟨x, 0, none⟩)] w fun e w' => e = .returned (.int .u32 (rm a b (op == 47))) ∧ Nx w w' := by
  go_enter Try.func55, Try.ntmps55
  go_wp2_with (go_at_call 56; refine (rem_any _ _ _ _ a1 a2 b1 b2).mono ?_; rintro e w' ⟨rfl, n, rfl⟩)
  go_ret
  exact ⟨rfl, (Nx.refl _).drewN _⟩

set_option maxHeartbeats 400000 in
theorem reck_19 (w : World) : Calls Try.prog 17 #[.int .i64 19] w fun e w' => e = .returned (.func (Fn.func 33) #[] #[]) ∧ w = w' := by
  go_enter Try.func17, Try.ntmps17
  go_wp2
  go_ret
  exact ⟨rfl, rfl⟩

set_option maxHeartbeats 400000 in
theorem reck_20 (w : World) : Calls Try.prog 17 #[.int .i64 20] w fun e w' => e = .returned (.func (Fn.func 35) #[] #[]) ∧ w = w' := by
  go_enter Try.func17, Try.ntmps17
  go_wp2
  go_ret
  exact ⟨rfl, rfl⟩

set_option maxHeartbeats 400000 in
theorem reck_21 (w : World) : Calls Try.prog 17 #[.int .i64 21] w fun e w' => e = .returned (.func (Fn.func 37) #[] #[]) ∧ w = w' := by
  go_enter Try.func17, Try.ntmps17
  go_wp2
  go_ret
  exact ⟨rfl, rfl⟩

set_option maxHeartbeats 400000 in
theorem reck_22 (w : World) : Calls Try.prog 17 #[.int .i64 22] w fun e w' => e = .returned (.func (Fn.func 38) #[] #[]) ∧ w = w' := by
  go_enter Try.func17, Try.ntmps17
  go_wp2
  go_ret
  exact ⟨rfl, rfl⟩

set_option maxHeartbeats 400000 in
theorem reck_23 (w : World) : Calls Try.prog 17 #[.int .i64 23] w fun e w' => e = .returned (.func (Fn.func 39) #[] #[]) ∧ w = w' := by
  go_enter Try.func17, Try.ntmps17
  go_wp2
  go_ret
  exact ⟨rfl, rfl⟩

set_option maxHeartbeats 400000 in
theorem reck_24 (w : World) : Calls Try.prog 17 #[.int .i64 24] w fun e w' => e = .returned (.func (Fn.func 40) #[] #[]) ∧ w = w' := by
  go_enter Try.func17, Try.ntmps17
  go_wp2
  go_ret
  exact ⟨rfl, rfl⟩

set_option maxHeartbeats 400000 in
theorem reck_25 (w : World) : Calls Try.prog 17 #[.int .i64 25] w fun e w' => e = .returned (.func (Fn.func 41) #[] #[]) ∧ w = w' := by
  go_enter Try.func17, Try.ntmps17
  go_wp2
  go_ret
  exact ⟨rfl, rfl⟩

set_option maxHeartbeats 400000 in
theorem reck_26 (w : World) : Calls Try.prog 17 #[.int .i64 26] w fun e w' => e = .returned (.func (Fn.func 42) #[] #[]) ∧ w = w' := by
  go_enter Try.func17, Try.ntmps17
  go_wp2
  go_ret
  exact ⟨rfl, rfl⟩

set_option maxHeartbeats 400000 in
theorem reck_27 (w : World) : Calls Try.prog 17 #[.int .i64 27] w fun e w' => e = .returned (.func (Fn.func 43) #[] #[]) ∧ w = w' := by
  go_enter Try.func17, Try.ntmps17
  go_wp2
  go_ret
  exact ⟨rfl, rfl⟩

set_option maxHeartbeats 400000 in
theorem reck_28 (w : World) : Calls Try.prog 17 #[.int .i64 28] w fun e w' => e = .returned (.func (Fn.func 33) #[] #[]) ∧ w = w' := by
  go_enter Try.func17, Try.ntmps17
  go_wp2
  go_ret
  exact ⟨rfl, rfl⟩

set_option maxHeartbeats 400000 in
theorem reck_29 (w : World) : Calls Try.prog 17 #[.int .i64 29] w fun e w' => e = .returned (.func (Fn.func 34) #[] #[]) ∧ w = w' := by
  go_enter Try.func17, Try.ntmps17
  go_wp2
  go_ret
  exact ⟨rfl, rfl⟩

set_option maxHeartbeats 400000 in
theorem reck_30 (w : World) : Calls Try.prog 17 #[.int .i64 30] w fun e w' => e = .returned (.func (Fn.func 41) #[] #[]) ∧ w = w' := by
  go_enter Try.func17, Try.ntmps17
  go_wp2
  go_ret
  exact ⟨rfl, rfl⟩

set_option maxHeartbeats 400000 in
theorem reck_31 (w : World) : Calls Try.prog 17 #[.int .i64 31] w fun e w' => e = .returned (.func (Fn.func 35) #[] #[]) ∧ w = w' := by
  go_enter Try.func17, Try.ntmps17
  go_wp2
  go_ret
  exact ⟨rfl, rfl⟩

set_option maxHeartbeats 400000 in
theorem reck_32 (w : World) : Calls Try.prog 17 #[.int .i64 32] w fun e w' => e = .returned (.func (Fn.func 37) #[] #[]) ∧ w = w' := by
  go_enter Try.func17, Try.ntmps17
  go_wp2
  go_ret
  exact ⟨rfl, rfl⟩

set_option maxHeartbeats 400000 in
theorem reck_33 (w : World) : Calls Try.prog 17 #[.int .i64 33] w fun e w' => e = .returned (.func (Fn.func 38) #[] #[]) ∧ w = w' := by
  go_enter Try.func17, Try.ntmps17
  go_wp2
  go_ret
  exact ⟨rfl, rfl⟩

set_option maxHeartbeats 400000 in
theorem reck_34 (w : World) : Calls Try.prog 17 #[.int .i64 34] w fun e w' => e = .returned (.func (Fn.func 42) #[] #[]) ∧ w = w' := by
  go_enter Try.func17, Try.ntmps17
  go_wp2
  go_ret
  exact ⟨rfl, rfl⟩

set_option maxHeartbeats 400000 in
theorem reck_35 (w : World) : Calls Try.prog 17 #[.int .i64 35] w fun e w' => e = .returned (.func (Fn.func 43) #[] #[]) ∧ w = w' := by
  go_enter Try.func17, Try.ntmps17
  go_wp2
  go_ret
  exact ⟨rfl, rfl⟩

set_option maxHeartbeats 400000 in
theorem reck_36 (w : World) : Calls Try.prog 17 #[.int .i64 36] w fun e w' => e = .returned (.func (Fn.func 39) #[] #[]) ∧ w = w' := by
  go_enter Try.func17, Try.ntmps17
  go_wp2
  go_ret
  exact ⟨rfl, rfl⟩

set_option maxHeartbeats 400000 in
theorem reck_37 (w : World) : Calls Try.prog 17 #[.int .i64 37] w fun e w' => e = .returned (.func (Fn.func 40) #[] #[]) ∧ w = w' := by
  go_enter Try.func17, Try.ntmps17
  go_wp2
  go_ret
  exact ⟨rfl, rfl⟩

set_option maxHeartbeats 400000 in
theorem prod_5 (w : World) : Calls Try.prog 44 #[.int .i64 5] w fun e w' => e = .returned .nilFunc ∧ Nx w w' := by
  go_enter Try.func44, Try.ntmps44
  go_wp2
  go_ret
  refine ⟨rfl, ?_⟩
  repeat (with_reducible first | exact Nx.refl _ | refine Nx.alloc ?_ _)

set_option maxHeartbeats 400000 in
theorem reck_5 (w : World) : Calls Try.prog 17 #[.int .i64 5] w fun e w' => e = .returned .nilFunc ∧ Nx w w' := by
  go_enter Try.func17, Try.ntmps17
  go_wp2_with (go_at_call 44; refine (prod_5 _).mono ?_; rintro e w1 ⟨rfl, hn⟩)
  go_ret
  exact ⟨rfl, hn⟩

set_option maxHeartbeats 400000 in
theorem prod_6 (w : World) : Calls Try.prog 44 #[.int .i64 6] w fun e w' => e = .returned .nilFunc ∧ Nx w w' := by
  go_enter Try.func44, Try.ntmps44
  go_wp2
  go_ret
  refine ⟨rfl, ?_⟩
  repeat (with_reducible first | exact Nx.refl _ | refine Nx.alloc ?_ _)

set_option maxHeartbeats 400000 in
theorem reck_6 (w : World) : Calls Try.prog 17 #[.int .i64 6] w fun e w' => e = .returned .nilFunc ∧ Nx w w' := by
  go_enter Try.func17, Try.ntmps17
  go_wp2_with (go_at_call 44; refine (prod_6 _).mono ?_; rintro e w1 ⟨rfl, hn⟩)
  go_ret
  exact ⟨rfl, hn⟩

set_option maxHeartbeats 400000 in
theorem prod_7 (w : World) : Calls Try.prog 44 #[.int .i64 7] w fun e w' => e = .returned .nilFunc ∧ Nx w w' := by
  go_enter Try.func44, Try.ntmps44
  go_wp2
  go_ret
  refine ⟨rfl, ?_⟩
  repeat (with_reducible first | exact Nx.refl _ | refine Nx.alloc ?_ _)

set_option maxHeartbeats 400000 in
theorem reck_7 (w : World) : Calls Try.prog 17 #[.int .i64 7] w fun e w' => e = .returned .nilFunc ∧ Nx w w' := by
  go_enter Try.func17, Try.ntmps17
  go_wp2_with (go_at_call 44; refine (prod_7 _).mono ?_; rintro e w1 ⟨rfl, hn⟩)
  go_ret
  exact ⟨rfl, hn⟩

set_option maxHeartbeats 400000 in
theorem prod_8 (w : World) : Calls Try.prog 44 #[.int .i64 8] w fun e w' => e = .returned .nilFunc ∧ Nx w w' := by
  go_enter Try.func44, Try.ntmps44
  go_wp2
  go_ret
  refine ⟨rfl, ?_⟩
  repeat (with_reducible first | exact Nx.refl _ | refine Nx.alloc ?_ _)

set_option maxHeartbeats 400000 in
theorem reck_8 (w : World) : Calls Try.prog 17 #[.int .i64 8] w fun e w' => e = .returned .nilFunc ∧ Nx w w' := by
  go_enter Try.func17, Try.ntmps17
  go_wp2_with (go_at_call 44; refine (prod_8 _).mono ?_; rintro e w1 ⟨rfl, hn⟩)
  go_ret
  exact ⟨rfl, hn⟩

set_option maxHeartbeats 400000 in
theorem prod_9 (w : World) : Calls Try.prog 44 #[.int .i64 9] w fun e w' => e = .returned .nilFunc ∧ Nx w w' := by
  go_enter Try.func44, Try.ntmps44
  go_wp2
  go_ret
  refine ⟨rfl, ?_⟩
  repeat (with_reducible first | exact Nx.refl _ | refine Nx.alloc ?_ _)

set_option maxHeartbeats 400000 in
theorem reck_9 (w : World) : Calls Try.prog 17 #[.int .i64 9] w fun e w' => e = .returned .nilFunc ∧ Nx w w' := by
  go_enter Try.func17, Try.ntmps17
  go_wp2_with (go_at_call 44; refine (prod_9 _).mono ?_; rintro e w1 ⟨rfl, hn⟩)
  go_ret
  exact ⟨rfl, hn⟩

set_option maxHeartbeats 400000 in
theorem prod_10 (w : World) : Calls Try.prog 44 #[.int .i64 10] w fun e w' => e = .returned .nilFunc ∧ Nx w w' := by
  go_enter Try.func44, Try.ntmps44
  go_wp2
  go_ret
  refine ⟨rfl, ?_⟩
  repeat (with_reducible first | exact Nx.refl _ | refine Nx.alloc ?_ _)

set_option maxHeartbeats 400000 in
theorem reck_10 (w : World) : Calls Try.prog 17 #[.int .i64 10] w fun e w' => e = .returned .nilFunc ∧ Nx w w' := by
  go_enter Try.func17, Try.ntmps17
  go_wp2_with (go_at_call 44; refine (prod_10 _).mono ?_; rintro e w1 ⟨rfl, hn⟩)
  go_ret
  exact ⟨rfl, hn⟩

set_option maxHeartbeats 400000 in
theorem prod_11 (w : World) : Calls Try.prog 44 #[.int .i64 11] w fun e w' => e = .returned .nilFunc ∧ Nx w w' := by
  go_enter Try.func44, Try.ntmps44
  go_wp2
  go_ret
  refine ⟨rfl, ?_⟩
  repeat (with_reducible first | exact Nx.refl _ | refine Nx.alloc ?_ _)

set_option maxHeartbeats 400000 in
theorem reck_11 (w : World) : Calls Try.prog 17 #[.int .i64 11] w fun e w' => e = .returned .nilFunc ∧ Nx w w' := by
  go_enter Try.func17, Try.ntmps17
  go_wp2_with (go_at_call 44; refine (prod_11 _).mono ?_; rintro e w1 ⟨rfl, hn⟩)
  go_ret
  exact ⟨rfl, hn⟩

set_option maxHeartbeats 400000 in
theorem prod_12 (w : World) : Calls Try.prog 44 #[.int .i64 12] w fun e w' => e = .returned .nilFunc ∧ Nx w w' := by
  go_enter Try.func44, Try.ntmps44
  go_wp2
  go_ret
  refine ⟨rfl, ?_⟩
  repeat (with_reducible first | exact Nx.refl _ | refine Nx.alloc ?_ _)

set_option maxHeartbeats 400000 in
theorem reck_12 (w : World) : Calls Try.prog 17 #[.int .i64 12] w fun e w' => e = .returned .nilFunc ∧ Nx w w' := by
  go_enter Try.func17, Try.ntmps17
  go_wp2_with (go_at_call 44; refine (prod_12 _).mono ?_; rintro e w1 ⟨rfl, hn⟩)
  go_ret
  exact ⟨rfl, hn⟩

set_option maxHeartbeats 400000 in
theorem prod_13 (w : World) : Calls Try.prog 44 #[.int .i64 13] w fun e w' => e = .returned .nilFunc ∧ Nx w w' := by
  go_enter Try.func44, Try.ntmps44
  go_wp2
  go_ret
  refine ⟨rfl, ?_⟩
  repeat (with_reducible first | exact Nx.refl _ | refine Nx.alloc ?_ _)

set_option maxHeartbeats 400000 in
theorem reck_13 (w : World) : Calls Try.prog 17 #[.int .i64 13] w fun e w' => e = .returned .nilFunc ∧ Nx w w' := by
  go_enter Try.func17, Try.ntmps17
  go_wp2_with (go_at_call 44; refine (prod_13 _).mono ?_; rintro e w1 ⟨rfl, hn⟩)
  go_ret
  exact ⟨rfl, hn⟩

set_option maxHeartbeats 400000 in
theorem prod_14 (w : World) : Calls Try.prog 44 #[.int .i64 14] w fun e w' => e = .returned .nilFunc ∧ Nx w w' := by
  go_enter Try.func44, Try.ntmps44
  go_wp2
  go_ret
  refine ⟨rfl, ?_⟩
  repeat (with_reducible first | exact Nx.refl _ | refine Nx.alloc ?_ _)

set_option maxHeartbeats 400000 in
theorem reck_14 (w : World) : Calls Try.prog 17 #[.int .i64 14] w fun e w' => e = .returned .nilFunc ∧ Nx w w' := by
  go_enter Try.func17, Try.ntmps17
  go_wp2_with (go_at_call 44; refine (prod_14 _).mono ?_; rintro e w1 ⟨rfl, hn⟩)
  go_ret
  exact ⟨rfl, hn⟩

set_option maxHeartbeats 400000 in
theorem prod_15 (w : World) : Calls Try.prog 44 #[.int .i64 15] w fun e w' => e = .returned .nilFunc ∧ Nx w w' := by
  go_enter Try.func44, Try.ntmps44
  go_wp2
  go_ret
  refine ⟨rfl, ?_⟩
  repeat (with_reducible first | exact Nx.refl _ | refine Nx.alloc ?_ _)

set_option maxHeartbeats 400000 in
theorem reck_15 (w : World) : Calls Try.prog 17 #[.int .i64 15] w fun e w' => e = .returned .nilFunc ∧ Nx w w' := by
  go_enter Try.func17, Try.ntmps17
  go_wp2_with (go_at_call 44; refine (prod_15 _).mono ?_; rintro e w1 ⟨rfl, hn⟩)
  go_ret
  exact ⟨rfl, hn⟩

set_option maxHeartbeats 400000 in
theorem prod_16 (w : World) : Calls Try.prog 44 #[.int .i64 16] w fun e w' => e = .returned .nilFunc ∧ Nx w w' := by
  go_enter Try.func44, Try.ntmps44
  go_wp2
  go_ret
  refine ⟨rfl, ?_⟩
  repeat (with_reducible first | exact Nx.refl _ | refine Nx.alloc ?_ _)

set_option maxHeartbeats 400000 in
theorem reck_16 (w : World) : Calls Try.prog 17 #[.int .i64 16] w fun e w' => e = .returned .nilFunc ∧ Nx w w' := by
  go_enter Try.func17, Try.ntmps17
  go_wp2_with (go_at_call 44; refine (prod_16 _).mono ?_; rintro e w1 ⟨rfl, hn⟩)
  go_ret
  exact ⟨rfl, hn⟩

set_option maxHeartbeats 400000 in
theorem prod_17 (w : World) : Calls Try.prog 44 #[.int .i64 17] w fun e w' => e = .returned .nilFunc ∧ Nx w w' := by
  go_enter Try.func44, Try.ntmps44
  go_wp2
  go_ret
  refine ⟨rfl, ?_⟩
  repeat (with_reducible first | exact Nx.refl _ | refine Nx.alloc ?_ _)

set_option maxHeartbeats 400000 in
theorem reck_17 (w : World) : Calls Try.prog 17 #[.int .i64 17] w fun e w' => e = .returned .nilFunc ∧ Nx w w' := by
  go_enter Try.func17, Try.ntmps17
  go_wp2_with (go_at_call 44; refine (prod_17 _).mono ?_; rintro e w1 ⟨rfl, hn⟩)
  go_ret
  exact ⟨rfl, hn⟩

set_option maxHeartbeats 400000 in
theorem prod_18 (w : World) : Calls Try.prog 44 #[.int .i64 18] w fun e w' => e = .returned .nilFunc ∧ Nx w w' := by
  go_enter Try.func44, Try.ntmps44
  go_wp2
  go_ret
  refine ⟨rfl, ?_⟩
  repeat (with_reducible first | exact Nx.refl _ | refine Nx.alloc ?_ _)

set_option maxHeartbeats 400000 in
theorem reck_18 (w : World) : Calls Try.prog 17 #[.int .i64 18] w fun e w' => e = .returned .nilFunc ∧ Nx w w' := by
  go_enter Try.func17, Try.ntmps17
  go_wp2_with (go_at_call 44; refine (prod_18 _).mono ?_; rintro e w1 ⟨rfl, hn⟩)
  go_ret
  exact ⟨rfl, hn⟩

set_option maxHeartbeats 400000 in
theorem prod_38 (w : World) : Calls Try.prog 44 #[.int .i64 38] w fun e w' => e = .returned .nilFunc ∧ Nx w w' := by
  go_enter Try.func44, Try.ntmps44
  go_wp2
  go_ret
  refine ⟨rfl, ?_⟩
  repeat (with_reducible first | exact Nx.refl _ | refine Nx.alloc ?_ _)

set_option maxHeartbeats 400000 in
theorem reck_38 (w : World) : Calls Try.prog 17 #[.int .i64 38] w fun e w' => e = .returned .nilFunc ∧ Nx w w' := by
  go_enter Try.func17, Try.ntmps17
  go_wp2_with (go_at_call 44; refine (prod_38 _).mono ?_; rintro e w1 ⟨rfl, hn⟩)
  go_ret
  exact ⟨rfl, hn⟩

set_option maxHeartbeats 400000 in
theorem prod_39 (w : World) : Calls Try.prog 44 #[.int .i64 39] w fun e w' => e = .returned .nilFunc ∧ Nx w w' := by
  go_enter Try.func44, Try.ntmps44
  go_wp2
  go_ret
  refine ⟨rfl, ?_⟩
  repeat (with_reducible first | exact Nx.refl _ | refine Nx.alloc ?_ _)

set_option maxHeartbeats 400000 in
theorem reck_39 (w : World) : Calls Try.prog 17 #[.int .i64 39] w fun e w' => e = .returned .nilFunc ∧ Nx w w' := by
  go_enter Try.func17, Try.ntmps17
  go_wp2_with (go_at_call 44; refine (prod_39 _).mono ?_; rintro e w1 ⟨rfl, hn⟩)
  go_ret
  exact ⟨rfl, hn⟩

set_option maxHeartbeats 400000 in
theorem prod_40 (w : World) : Calls Try.prog 44 #[.int .i64 40] w fun e w' => e = .returned .nilFunc ∧ Nx w w' := by
  go_enter Try.func44, Try.ntmps44
  go_wp2
  go_ret
  refine ⟨rfl, ?_⟩
  repeat (with_reducible first | exact Nx.refl _ | refine Nx.alloc ?_ _)

set_option maxHeartbeats 400000 in
theorem reck_40 (w : World) : Calls Try.prog 17 #[.int .i64 40] w fun e w' => e = .returned .nilFunc ∧ Nx w w' := by
  go_enter Try.func17, Try.ntmps17
  go_wp2_with (go_at_call 44; refine (prod_40 _).mono ?_; rintro e w1 ⟨rfl, hn⟩)
  go_ret
  exact ⟨rfl, hn⟩

set_option maxHeartbeats 400000 in
theorem prod_41 (w : World) : Calls Try.prog 44 #[.int .i64 41] w fun e w' => e = .returned (.func (Fn.func 50) #[] #[]) ∧ Nx w w' := by
  go_enter Try.func44, Try.ntmps44
  go_wp2
  go_ret
  refine ⟨rfl, ?_⟩
  repeat (with_reducible first | exact Nx.refl _ | refine Nx.alloc ?_ _)

set_option maxHeartbeats 400000 in
theorem reck_41 (w : World) : Calls Try.prog 17 #[.int .i64 41] w fun e w' => e = .returned (.func (Fn.func 50) #[] #[]) ∧ Nx w w' := by
  go_enter Try.func17, Try.ntmps17
  go_wp2_with (go_at_call 44; refine (prod_41 _).mono ?_; rintro e w1 ⟨rfl, hn⟩)
  go_ret
  exact ⟨rfl, hn⟩

/-- A function that has taken two truths with it. -/
def RetF2 (sa sb : Bool) (w : World) (e : Ending) (w' : World) : Prop := ∃ x y, e = .returned (.func (Fn.func 51) #[] #[.pointer (some ⟨x, 0, none⟩), .pointer (some ⟨y, 0, none⟩)]) ∧ w'.cell? ⟨x, 0, none⟩ = some (.bool sa) ∧ w'.cell? ⟨y, 0, none⟩ = some (.bool sb) ∧ Nx w w'

/-- A function that has taken a number with it. -/
def RetF1 (f : Nat) (op : Int) (w : World) (e : Ending) (w' : World) : Prop := ∃ x, e = .returned (.func (Fn.func f) #[] #[.pointer (some ⟨x, 0, none⟩)]) ∧ w'.cell? ⟨x, 0, none⟩ = some (.int .i64 op) ∧ Nx w w'

set_option maxHeartbeats 400000 in
theorem prod_42 (w : World) : Calls Try.prog 44 #[.int .i64 42] w (RetF2 true true w) := by
  have hmf : ∀ (fn : Fn) (first cap : Array Value) (w : World), (Instr.makeFunc fn first cap).run Try.prog w = .ok (.func fn first cap) w := fun _ _ _ _ => rfl
  go_enter Try.func44, Try.ntmps44
  go_wp2
  go_ret
  refine ⟨_, _, rfl, ?_, ?_, ?_⟩
  · simp [go_sem]
  · simp [go_sem]
  repeat (with_reducible first | exact Nx.refl _ | refine Nx.alloc ?_ _)

set_option maxHeartbeats 400000 in
theorem reck_42 (w : World) : Calls Try.prog 17 #[.int .i64 42] w (RetF2 true true w) := by
  go_enter Try.func17, Try.ntmps17
  go_wp2_with (go_at_call 44; refine (prod_42 _).mono ?_; rintro e w1 ⟨x, y, rfl, hx, hy, hn⟩)
  go_ret
  exact ⟨x, y, rfl, hx, hy, hn⟩

set_option maxHeartbeats 400000 in
theorem prod_43 (w : World) : Calls Try.prog 44 #[.int .i64 43] w (RetF2 true false w) := by
  have hmf : ∀ (fn : Fn) (first cap : Array Value) (w : World), (Instr.makeFunc fn first cap).run Try.prog w = .ok (.func fn first cap) w := fun _ _ _ _ => rfl
  go_enter Try.func44, Try.ntmps44
  go_wp2
  go_ret
  refine ⟨_, _, rfl, ?_, ?_, ?_⟩
  · simp [go_sem]
  · simp [go_sem]
  repeat (with_reducible first | exact Nx.refl _ | refine Nx.alloc ?_ _)

set_option maxHeartbeats 400000 in
theorem reck_43 (w : World) : Calls Try.prog 17 #[.int .i64 43] w (RetF2 true false w) := by
  go_enter Try.func17, Try.ntmps17
  go_wp2_with (go_at_call 44; refine (prod_43 _).mono ?_; rintro e w1 ⟨x, y, rfl, hx, hy, hn⟩)
  go_ret
  exact ⟨x, y, rfl, hx, hy, hn⟩

set_option maxHeartbeats 400000 in
theorem prod_44 (w : World) : Calls Try.prog 44 #[.int .i64 44] w (RetF2 false false w) := by
  have hmf : ∀ (fn : Fn) (first cap : Array Value) (w : World), (Instr.makeFunc fn first cap).run Try.prog w = .ok (.func fn first cap) w := fun _ _ _ _ => rfl
  go_enter Try.func44, Try.ntmps44
  go_wp2
  go_ret
  refine ⟨_, _, rfl, ?_, ?_, ?_⟩
  · simp [go_sem]
  · simp [go_sem]
  repeat (with_reducible first | exact Nx.refl _ | refine Nx.alloc ?_ _)

set_option maxHeartbeats 400000 in
theorem reck_44 (w : World) : Calls Try.prog 17 #[.int .i64 44] w (RetF2 false false w) := by
  go_enter Try.func17, Try.ntmps17
  go_wp2_with (go_at_call 44; refine (prod_44 _).mono ?_; rintro e w1 ⟨x, y, rfl, hx, hy, hn⟩)
  go_ret
  exact ⟨x, y, rfl, hx, hy, hn⟩

set_option maxHeartbeats 400000 in
theorem prod_45 (w : World) : Calls Try.prog 44 #[.int .i64 45] w (RetF1 53 45 w) := by
  have hmf : ∀ (fn : Fn) (first cap : Array Value) (w : World), (Instr.makeFunc fn first cap).run Try.prog w = .ok (.func fn first cap) w := fun _ _ _ _ => rfl
  go_enter Try.func44, Try.ntmps44
  go_wp2
  go_ret
  refine ⟨_, rfl, ?_, ?_⟩
  · simp [go_sem]
  repeat (with_reducible first | exact Nx.refl _ | refine Nx.alloc ?_ _)

set_option maxHeartbeats 400000 in
theorem reck_45 (w : World) : Calls Try.prog 17 #[.int .i64 45] w (RetF1 53 45 w) := by
  go_enter Try.func17, Try.ntmps17
  go_wp2_with (go_at_call 44; refine (prod_45 _).mono ?_; rintro e w1 ⟨x, rfl, hx, hn⟩)
  go_ret
  exact ⟨x, rfl, hx, hn⟩

set_option maxHeartbeats 400000 in
theorem prod_46 (w : World) : Calls Try.prog 44 #[.int .i64 46] w (RetF1 53 46 w) := by
  have hmf : ∀ (fn : Fn) (first cap : Array Value) (w : World), (Instr.makeFunc fn first cap).run Try.prog w = .ok (.func fn first cap) w := fun _ _ _ _ => rfl
  go_enter Try.func44, Try.ntmps44
  go_wp2
  go_ret
  refine ⟨_, rfl, ?_, ?_⟩
  · simp [go_sem]
  repeat (with_reducible first | exact Nx.refl _ | refine Nx.alloc ?_ _)

set_option maxHeartbeats 400000 in
theorem reck_46 (w : World) : Calls Try.prog 17 #[.int .i64 46] w (RetF1 53 46 w) := by
  go_enter Try.func17, Try.ntmps17
  go_wp2_with (go_at_call 44; refine (prod_46 _).mono ?_; rintro e w1 ⟨x, rfl, hx, hn⟩)
  go_ret
  exact ⟨x, rfl, hx, hn⟩

set_option maxHeartbeats 400000 in
theorem prod_47 (w : World) : Calls Try.prog 44 #[.int .i64 47] w (RetF1 55 47 w) := by
  have hmf : ∀ (fn : Fn) (first cap : Array Value) (w : World), (Instr.makeFunc fn first cap).run Try.prog w = .ok (.func fn first cap) w := fun _ _ _ _ => rfl
  go_enter Try.func44, Try.ntmps44
  go_wp2
  go_ret
  refine ⟨_, rfl, ?_, ?_⟩
  · simp [go_sem]
  repeat (with_reducible first | exact Nx.refl _ | refine Nx.alloc ?_ _)

set_option maxHeartbeats 400000 in
theorem reck_47 (w : World) : Calls Try.prog 17 #[.int .i64 47] w (RetF1 55 47 w) := by
  go_enter Try.func17, Try.ntmps17
  go_wp2_with (go_at_call 44; refine (prod_47 _).mono ?_; rintro e w1 ⟨x, rfl, hx, hn⟩)
  go_ret
  exact ⟨x, rfl, hx, hn⟩

set_option maxHeartbeats 400000 in
theorem prod_48 (w : World) : Calls Try.prog 44 #[.int .i64 48] w (RetF1 55 48 w) := by
  have hmf : ∀ (fn : Fn) (first cap : Array Value) (w : World), (Instr.makeFunc fn first cap).run Try.prog w = .ok (.func fn first cap) w := fun _ _ _ _ => rfl
  go_enter Try.func44, Try.ntmps44
  go_wp2
  go_ret
  refine ⟨_, rfl, ?_, ?_⟩
  · simp [go_sem]
  repeat (with_reducible first | exact Nx.refl _ | refine Nx.alloc ?_ _)

set_option maxHeartbeats 400000 in
theorem reck_48 (w : World) : Calls Try.prog 17 #[.int .i64 48] w (RetF1 55 48 w) := by
  go_enter Try.func17, Try.ntmps17
  go_wp2_with (go_at_call 44; refine (prod_48 _).mono ?_; rintro e w1 ⟨x, rfl, hx, hn⟩)
  go_ret
  exact ⟨x, rfl, hx, hn⟩

end Go.Proofs.Ytmobkjdbjgopgaa
