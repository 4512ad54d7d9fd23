/- The walk of the law ExecPairs. -/
import Derived.Test.YtmobkjdbjgopgaaLawk
namespace Go.Proofs.Ytmobkjdbjgopgaa
open Go.RowKit
set_option linter.unusedVariables false
set_option linter.unusedSimpArgs false

theorem fit12 (v : Int) (h : -2048 ≤ v) (h' : v < 2048) : fitB v 12 = true := by
  unfold fitB
  rw [beq_iff_eq, sgn_emod _ _ (by decide)]
  exact sgn_of_range v 12 (by have : (2 : Int) ^ 12 = 4096 := by decide
                              omega) (by have : (2 : Int) ^ 12 = 4096 := by decide
                                         omega)

theorem may_num (op r v : Int) (ho : 19 ≤ op ∧ op ≤ 24) (r1 : 0 ≤ r) (r2 : r < 32) (h : -2048 ≤ v) (h' : v < 2048) : mayB op r 0 0 v = true := by
  have hr : regB r true = true := by simp [regB]; omega
  have hz : regB 0 true = true := by decide
  have hn := fit12 v h h'
  have e : ∀ x y : Bool, x = true → y = true → (true && (x && (true && (true && y)))) = true := by intro x y hx hy; rw [hx, hy]; rfl
  rcases (by omega : op = 19 ∨ op = 20 ∨ op = 21 ∨ op = 22 ∨ op = 23 ∨ op = 24) with rfl | rfl | rfl | rfl | rfl | rfl <;> exact e _ _ hr hn

theorem may_sh (op r v : Int) (ho : 25 ≤ op ∧ op ≤ 27) (r1 : 0 ≤ r) (r2 : r < 32) (h : 0 ≤ v) (h' : v < 32) : mayB op r 0 0 v = true := by
  have hr : regB r true = true := by simp [regB]; omega
  have hn : numB 7 v = true := by simp [numB]; omega
  have e : ∀ x y : Bool, x = true → y = true → (true && (x && (true && (true && y)))) = true := by intro x y hx hy; rw [hx, hy]; rfl
  rcases (by omega : op = 25 ∨ op = 26 ∨ op = 27) with rfl | rfl | rfl <;> exact e _ _ hr hn

def pairA (j : Nat) : Int := [19, 20, 21, 22, 23, 24, 25, 26, 27].getD j 0

def pairB (j : Nat) : Int := [28, 31, 32, 33, 36, 37, 30, 34, 35].getD j 0

theorem pair_same (j : Nat) (hj : j < 9) (a b v : Int) : valV (pairA j) a 0 0 v 4 = valV (pairB j) a (v % 4294967296) 0 0 4 := by
  rcases (by omega : j = 0 ∨ j = 1 ∨ j = 2 ∨ j = 3 ∨ j = 4 ∨ j = 5 ∨ j = 6 ∨ j = 7 ∨ j = 8) with rfl | rfl | rfl | rfl | rfl | rfl | rfl | rfl | rfl <;> rfl

/-- The two values of a pair, and that both are there. -/
theorem pair_calls (j : Nat) (hj : j < 9) (a r v : Int) (r1 : 0 ≤ r) (r2 : r < 32) (h1 : -2048 ≤ v) (h2 : v < 2048) (h3 : 6 ≤ j → 0 ≤ v ∧ v < 32) (a1 : 0 ≤ a) (a2 : a < 4294967296) :
    (∀ w, Calls Try.prog 9 #[.agg #[.int .i64 (pairA j), .int .i64 r, .int .i64 0, .int .i64 0, .int .i32 v], .int .u32 a, .int .u32 0, .int .u32 0, .int .i64 4] w fun e w' => e = .returned (.tuple #[.int .u32 (valV (pairA j) a 0 0 v 4), .bool true]) ∧ Nx w w') ∧
    (∀ w, Calls Try.prog 9 #[.agg #[.int .i64 (pairB j), .int .i64 1, .int .i64 0, .int .i64 0, .int .i32 0], .int .u32 a, .int .u32 (v % 4294967296), .int .u32 0, .int .i64 4] w fun e w' => e = .returned (.tuple #[.int .u32 (valV (pairA j) a 0 0 v 4), .bool true]) ∧ Nx w w') := by
  constructor
  · intro w
    have h := value_any (pairA j) r 0 0 v a 0 0 4 w (by omega) (by omega) a1 a2 (by omega) (by omega) (by omega) (by omega)
    have hm : mayB (pairA j) r 0 0 v = true := by
      rcases (by omega : j = 0 ∨ j = 1 ∨ j = 2 ∨ j = 3 ∨ j = 4 ∨ j = 5 ∨ j = 6 ∨ j = 7 ∨ j = 8) with rfl | rfl | rfl | rfl | rfl | rfl | rfl | rfl | rfl
      · exact may_num 19 r v (by omega) r1 r2 h1 h2
      · exact may_num 20 r v (by omega) r1 r2 h1 h2
      · exact may_num 21 r v (by omega) r1 r2 h1 h2
      · exact may_num 22 r v (by omega) r1 r2 h1 h2
      · exact may_num 23 r v (by omega) r1 r2 h1 h2
      · exact may_num 24 r v (by omega) r1 r2 h1 h2
      · exact may_sh 25 r v (by omega) r1 r2 (h3 (by omega)).1 (h3 (by omega)).2
      · exact may_sh 26 r v (by omega) r1 r2 (h3 (by omega)).1 (h3 (by omega)).2
      · exact may_sh 27 r v (by omega) r1 r2 (h3 (by omega)).1 (h3 (by omega)).2
    have ho : valO (pairA j) = true := by
      rcases (by omega : j = 0 ∨ j = 1 ∨ j = 2 ∨ j = 3 ∨ j = 4 ∨ j = 5 ∨ j = 6 ∨ j = 7 ∨ j = 8) with rfl | rfl | rfl | rfl | rfl | rfl | rfl | rfl | rfl <;> decide
    rw [hm, ho] at h
    unfold valX at h
    rw [if_pos ⟨rfl, ho⟩] at h
    exact h
  · intro w
    have h := value_any (pairB j) 1 0 0 0 a (v % 4294967296) 0 4 w (by omega) (by omega) a1 a2 (by omega) (by omega) (by omega) (by omega)
    have hm : mayB (pairB j) 1 0 0 0 = true ∧ valO (pairB j) = true := by
      rcases (by omega : j = 0 ∨ j = 1 ∨ j = 2 ∨ j = 3 ∨ j = 4 ∨ j = 5 ∨ j = 6 ∨ j = 7 ∨ j = 8) with rfl | rfl | rfl | rfl | rfl | rfl | rfl | rfl | rfl <;> decide +kernel
    rw [hm.1, hm.2] at h
    unfold valX at h
    rw [if_pos ⟨rfl, hm.2⟩, ← pair_same j hj a 0 v] at h
    exact h

set_option maxHeartbeats 1000000 in
theorem pairs_0 (which a imm rd : Int) (x1 : 0 ≤ which) (x2 : which ≤ 255) (a1 : 0 ≤ a) (a2 : a ≤ 4294967295) (i1 : -2147483648 ≤ imm) (i2 : imm ≤ 2147483647) (r1 : 0 ≤ rd) (r2 : rd ≤ 255) (t1 : -2048 < imm.tmod 2048) (t2 : imm.tmod 2048 < 2048) (hw : which % 9 = 0) (w : World) :
    Calls Try.prog 5 #[.int .u8 which, .int .u32 a, .int .i32 imm, .int .u8 rd] w fun e w' => e = .returned (.bool true) ∧ Nx w w' := by
  have HP := Lib.hid (pair_calls 0 (by omega) a (rd % 32) (imm.tmod 2048) (by omega) (by omega) (by omega) (by omega) (fun c => by omega) a1 (by omega))
  have hee : ∀ x : Int, (x == x) = true := fun x => by simp
  generalize valV (pairA 0) a 0 0 (imm.tmod 2048) 4 = V at *
  have hVV := hee V
  clear hee
  go_enter Try.func5, Try.ntmps5
  go_wp2_with fail
  refine (awakek_any _).mono ?_
  rintro e wA ⟨rfl, hnA⟩
  go_wp2_with fail
  refine (HP.out.1 _).mono ?_
  rintro e wB ⟨rfl, hnB⟩
  obtain ⟨c0, c1, hz⟩ := pair_cells hnB
  go_wp2_with fail
  refine (HP.out.2 _).mono ?_
  rintro e wC ⟨rfl, hnC⟩
  go_wp2
  go_ret
  refine ⟨rfl, ?_⟩
  exact (((hnA.alloc _).alloc _).trans hnB).trans hnC

set_option maxHeartbeats 1000000 in
theorem pairs_1 (which a imm rd : Int) (x1 : 0 ≤ which) (x2 : which ≤ 255) (a1 : 0 ≤ a) (a2 : a ≤ 4294967295) (i1 : -2147483648 ≤ imm) (i2 : imm ≤ 2147483647) (r1 : 0 ≤ rd) (r2 : rd ≤ 255) (t1 : -2048 < imm.tmod 2048) (t2 : imm.tmod 2048 < 2048) (hw : which % 9 = 1) (w : World) :
    Calls Try.prog 5 #[.int .u8 which, .int .u32 a, .int .i32 imm, .int .u8 rd] w fun e w' => e = .returned (.bool true) ∧ Nx w w' := by
  have HP := Lib.hid (pair_calls 1 (by omega) a (rd % 32) (imm.tmod 2048) (by omega) (by omega) (by omega) (by omega) (fun c => by omega) a1 (by omega))
  have hee : ∀ x : Int, (x == x) = true := fun x => by simp
  generalize valV (pairA 1) a 0 0 (imm.tmod 2048) 4 = V at *
  have hVV := hee V
  clear hee
  go_enter Try.func5, Try.ntmps5
  go_wp2_with fail
  refine (awakek_any _).mono ?_
  rintro e wA ⟨rfl, hnA⟩
  go_wp2_with fail
  refine (HP.out.1 _).mono ?_
  rintro e wB ⟨rfl, hnB⟩
  obtain ⟨c0, c1, hz⟩ := pair_cells hnB
  go_wp2_with fail
  refine (HP.out.2 _).mono ?_
  rintro e wC ⟨rfl, hnC⟩
  go_wp2
  go_ret
  refine ⟨rfl, ?_⟩
  exact (((hnA.alloc _).alloc _).trans hnB).trans hnC

set_option maxHeartbeats 1000000 in
theorem pairs_2 (which a imm rd : Int) (x1 : 0 ≤ which) (x2 : which ≤ 255) (a1 : 0 ≤ a) (a2 : a ≤ 4294967295) (i1 : -2147483648 ≤ imm) (i2 : imm ≤ 2147483647) (r1 : 0 ≤ rd) (r2 : rd ≤ 255) (t1 : -2048 < imm.tmod 2048) (t2 : imm.tmod 2048 < 2048) (hw : which % 9 = 2) (w : World) :
    Calls Try.prog 5 #[.int .u8 which, .int .u32 a, .int .i32 imm, .int .u8 rd] w fun e w' => e = .returned (.bool true) ∧ Nx w w' := by
  have HP := Lib.hid (pair_calls 2 (by omega) a (rd % 32) (imm.tmod 2048) (by omega) (by omega) (by omega) (by omega) (fun c => by omega) a1 (by omega))
  have hee : ∀ x : Int, (x == x) = true := fun x => by simp
  generalize valV (pairA 2) a 0 0 (imm.tmod 2048) 4 = V at *
  have hVV := hee V
  clear hee
  go_enter Try.func5, Try.ntmps5
  go_wp2_with fail
  refine (awakek_any _).mono ?_
  rintro e wA ⟨rfl, hnA⟩
  go_wp2_with fail
  refine (HP.out.1 _).mono ?_
  rintro e wB ⟨rfl, hnB⟩
  obtain ⟨c0, c1, hz⟩ := pair_cells hnB
  go_wp2_with fail
  refine (HP.out.2 _).mono ?_
  rintro e wC ⟨rfl, hnC⟩
  go_wp2
  go_ret
  refine ⟨rfl, ?_⟩
  exact (((hnA.alloc _).alloc _).trans hnB).trans hnC

set_option maxHeartbeats 1000000 in
theorem pairs_3 (which a imm rd : Int) (x1 : 0 ≤ which) (x2 : which ≤ 255) (a1 : 0 ≤ a) (a2 : a ≤ 4294967295) (i1 : -2147483648 ≤ imm) (i2 : imm ≤ 2147483647) (r1 : 0 ≤ rd) (r2 : rd ≤ 255) (t1 : -2048 < imm.tmod 2048) (t2 : imm.tmod 2048 < 2048) (hw : which % 9 = 3) (w : World) :
    Calls Try.prog 5 #[.int .u8 which, .int .u32 a, .int .i32 imm, .int .u8 rd] w fun e w' => e = .returned (.bool true) ∧ Nx w w' := by
  have HP := Lib.hid (pair_calls 3 (by omega) a (rd % 32) (imm.tmod 2048) (by omega) (by omega) (by omega) (by omega) (fun c => by omega) a1 (by omega))
  have hee : ∀ x : Int, (x == x) = true := fun x => by simp
  generalize valV (pairA 3) a 0 0 (imm.tmod 2048) 4 = V at *
  have hVV := hee V
  clear hee
  go_enter Try.func5, Try.ntmps5
  go_wp2_with fail
  refine (awakek_any _).mono ?_
  rintro e wA ⟨rfl, hnA⟩
  go_wp2_with fail
  refine (HP.out.1 _).mono ?_
  rintro e wB ⟨rfl, hnB⟩
  obtain ⟨c0, c1, hz⟩ := pair_cells hnB
  go_wp2_with fail
  refine (HP.out.2 _).mono ?_
  rintro e wC ⟨rfl, hnC⟩
  go_wp2
  go_ret
  refine ⟨rfl, ?_⟩
  exact (((hnA.alloc _).alloc _).trans hnB).trans hnC

set_option maxHeartbeats 1000000 in
theorem pairs_4 (which a imm rd : Int) (x1 : 0 ≤ which) (x2 : which ≤ 255) (a1 : 0 ≤ a) (a2 : a ≤ 4294967295) (i1 : -2147483648 ≤ imm) (i2 : imm ≤ 2147483647) (r1 : 0 ≤ rd) (r2 : rd ≤ 255) (t1 : -2048 < imm.tmod 2048) (t2 : imm.tmod 2048 < 2048) (hw : which % 9 = 4) (w : World) :
    Calls Try.prog 5 #[.int .u8 which, .int .u32 a, .int .i32 imm, .int .u8 rd] w fun e w' => e = .returned (.bool true) ∧ Nx w w' := by
  have HP := Lib.hid (pair_calls 4 (by omega) a (rd % 32) (imm.tmod 2048) (by omega) (by omega) (by omega) (by omega) (fun c => by omega) a1 (by omega))
  have hee : ∀ x : Int, (x == x) = true := fun x => by simp
  generalize valV (pairA 4) a 0 0 (imm.tmod 2048) 4 = V at *
  have hVV := hee V
  clear hee
  go_enter Try.func5, Try.ntmps5
  go_wp2_with fail
  refine (awakek_any _).mono ?_
  rintro e wA ⟨rfl, hnA⟩
  go_wp2_with fail
  refine (HP.out.1 _).mono ?_
  rintro e wB ⟨rfl, hnB⟩
  obtain ⟨c0, c1, hz⟩ := pair_cells hnB
  go_wp2_with fail
  refine (HP.out.2 _).mono ?_
  rintro e wC ⟨rfl, hnC⟩
  go_wp2
  go_ret
  refine ⟨rfl, ?_⟩
  exact (((hnA.alloc _).alloc _).trans hnB).trans hnC

set_option maxHeartbeats 1000000 in
theorem pairs_5 (which a imm rd : Int) (x1 : 0 ≤ which) (x2 : which ≤ 255) (a1 : 0 ≤ a) (a2 : a ≤ 4294967295) (i1 : -2147483648 ≤ imm) (i2 : imm ≤ 2147483647) (r1 : 0 ≤ rd) (r2 : rd ≤ 255) (t1 : -2048 < imm.tmod 2048) (t2 : imm.tmod 2048 < 2048) (hw : which % 9 = 5) (w : World) :
    Calls Try.prog 5 #[.int .u8 which, .int .u32 a, .int .i32 imm, .int .u8 rd] w fun e w' => e = .returned (.bool true) ∧ Nx w w' := by
  have HP := Lib.hid (pair_calls 5 (by omega) a (rd % 32) (imm.tmod 2048) (by omega) (by omega) (by omega) (by omega) (fun c => by omega) a1 (by omega))
  have hee : ∀ x : Int, (x == x) = true := fun x => by simp
  generalize valV (pairA 5) a 0 0 (imm.tmod 2048) 4 = V at *
  have hVV := hee V
  clear hee
  go_enter Try.func5, Try.ntmps5
  go_wp2_with fail
  refine (awakek_any _).mono ?_
  rintro e wA ⟨rfl, hnA⟩
  go_wp2_with fail
  refine (HP.out.1 _).mono ?_
  rintro e wB ⟨rfl, hnB⟩
  obtain ⟨c0, c1, hz⟩ := pair_cells hnB
  go_wp2_with fail
  refine (HP.out.2 _).mono ?_
  rintro e wC ⟨rfl, hnC⟩
  go_wp2
  go_ret
  refine ⟨rfl, ?_⟩
  exact (((hnA.alloc _).alloc _).trans hnB).trans hnC

set_option maxHeartbeats 1000000 in
theorem pairs_6 (which a imm rd : Int) (x1 : 0 ≤ which) (x2 : which ≤ 255) (a1 : 0 ≤ a) (a2 : a ≤ 4294967295) (i1 : -2147483648 ≤ imm) (i2 : imm ≤ 2147483647) (r1 : 0 ≤ rd) (r2 : rd ≤ 255) (t1 : -2048 < imm.tmod 2048) (t2 : imm.tmod 2048 < 2048) (hw : which % 9 = 6) (w : World) :
    Calls Try.prog 5 #[.int .u8 which, .int .u32 a, .int .i32 imm, .int .u8 rd] w fun e w' => e = .returned (.bool true) ∧ Nx w w' := by
  have HP := Lib.hid (pair_calls 6 (by omega) a (rd % 32) (imm % 32) (by omega) (by omega) (by omega) (by omega) (fun c => by omega) a1 (by omega))
  have hee : ∀ x : Int, (x == x) = true := fun x => by simp
  generalize valV (pairA 6) a 0 0 (imm % 32) 4 = V at *
  have hVV := hee V
  clear hee
  have hq : imm % 32 % 4294967296 = imm % 32 := by omega
  rw [hq] at HP
  clear hq
  go_enter Try.func5, Try.ntmps5
  go_wp2_with fail
  refine (awakek_any _).mono ?_
  rintro e wA ⟨rfl, hnA⟩
  go_wp2_with fail
  refine (HP.out.1 _).mono ?_
  rintro e wB ⟨rfl, hnB⟩
  obtain ⟨c0, c1, hz⟩ := pair_cells hnB
  go_wp2_with fail
  refine (HP.out.2 _).mono ?_
  rintro e wC ⟨rfl, hnC⟩
  go_wp2
  go_ret
  refine ⟨rfl, ?_⟩
  exact (((hnA.alloc _).alloc _).trans hnB).trans hnC

set_option maxHeartbeats 1000000 in
theorem pairs_7 (which a imm rd : Int) (x1 : 0 ≤ which) (x2 : which ≤ 255) (a1 : 0 ≤ a) (a2 : a ≤ 4294967295) (i1 : -2147483648 ≤ imm) (i2 : imm ≤ 2147483647) (r1 : 0 ≤ rd) (r2 : rd ≤ 255) (t1 : -2048 < imm.tmod 2048) (t2 : imm.tmod 2048 < 2048) (hw : which % 9 = 7) (w : World) :
    Calls Try.prog 5 #[.int .u8 which, .int .u32 a, .int .i32 imm, .int .u8 rd] w fun e w' => e = .returned (.bool true) ∧ Nx w w' := by
  have HP := Lib.hid (pair_calls 7 (by omega) a (rd % 32) (imm % 32) (by omega) (by omega) (by omega) (by omega) (fun c => by omega) a1 (by omega))
  have hee : ∀ x : Int, (x == x) = true := fun x => by simp
  generalize valV (pairA 7) a 0 0 (imm % 32) 4 = V at *
  have hVV := hee V
  clear hee
  have hq : imm % 32 % 4294967296 = imm % 32 := by omega
  rw [hq] at HP
  clear hq
  go_enter Try.func5, Try.ntmps5
  go_wp2_with fail
  refine (awakek_any _).mono ?_
  rintro e wA ⟨rfl, hnA⟩
  go_wp2_with fail
  refine (HP.out.1 _).mono ?_
  rintro e wB ⟨rfl, hnB⟩
  obtain ⟨c0, c1, hz⟩ := pair_cells hnB
  go_wp2_with fail
  refine (HP.out.2 _).mono ?_
  rintro e wC ⟨rfl, hnC⟩
  go_wp2
  go_ret
  refine ⟨rfl, ?_⟩
  exact (((hnA.alloc _).alloc _).trans hnB).trans hnC

set_option maxHeartbeats 1000000 in
theorem pairs_8 (which a imm rd : Int) (x1 : 0 ≤ which) (x2 : which ≤ 255) (a1 : 0 ≤ a) (a2 : a ≤ 4294967295) (i1 : -2147483648 ≤ imm) (i2 : imm ≤ 2147483647) (r1 : 0 ≤ rd) (r2 : rd ≤ 255) (t1 : -2048 < imm.tmod 2048) (t2 : imm.tmod 2048 < 2048) (hw : which % 9 = 8) (w : World) :
    Calls Try.prog 5 #[.int .u8 which, .int .u32 a, .int .i32 imm, .int .u8 rd] w fun e w' => e = .returned (.bool true) ∧ Nx w w' := by
  have HP := Lib.hid (pair_calls 8 (by omega) a (rd % 32) (imm % 32) (by omega) (by omega) (by omega) (by omega) (fun c => by omega) a1 (by omega))
  have hee : ∀ x : Int, (x == x) = true := fun x => by simp
  generalize valV (pairA 8) a 0 0 (imm % 32) 4 = V at *
  have hVV := hee V
  clear hee
  have hq : imm % 32 % 4294967296 = imm % 32 := by omega
  rw [hq] at HP
  clear hq
  go_enter Try.func5, Try.ntmps5
  go_wp2_with fail
  refine (awakek_any _).mono ?_
  rintro e wA ⟨rfl, hnA⟩
  go_wp2_with fail
  refine (HP.out.1 _).mono ?_
  rintro e wB ⟨rfl, hnB⟩
  obtain ⟨c0, c1, hz⟩ := pair_cells hnB
  go_wp2_with fail
  refine (HP.out.2 _).mono ?_
  rintro e wC ⟨rfl, hnC⟩
  go_wp2
  go_ret
  refine ⟨rfl, ?_⟩
  exact (((hnA.alloc _).alloc _).trans hnB).trans hnC

set_option maxHeartbeats 400000 in
theorem ExecPairs_walk (which a imm rd : Int) (w0 : (Lit.int .u8 which).wf = true) (w1 : (Lit.int .u32 a).wf = true) (w2 : (Lit.int .i32 imm).wf = true) (w3 : (Lit.int .u8 rd).wf = true) (w : World) :
    Calls Try.prog 5 #[.int .u8 which, .int .u32 a, .int .i32 imm, .int .u8 rd] w fun e w' => e = .returned (.bool true) ∧ Nx w w' := by
  obtain ⟨x1, x2⟩ := bounds_u8 w0
  obtain ⟨a1, a2⟩ := bounds_u32 w1
  obtain ⟨i1, i2⟩ := bounds_i32 w2
  obtain ⟨r1, r2⟩ := bounds_u8 w3
  clear w0 w1 w2 w3
  have t1 : -2048 < imm.tmod 2048 := Int.lt_tmod_of_pos _ (by decide)
  have t2 : imm.tmod 2048 < 2048 := Int.tmod_lt_of_pos _ (by decide)
  rcases (by omega : which % 9 = 0 ∨ which % 9 = 1 ∨ which % 9 = 2 ∨ which % 9 = 3 ∨ which % 9 = 4 ∨ which % 9 = 5 ∨ which % 9 = 6 ∨ which % 9 = 7 ∨ which % 9 = 8) with hw | hw | hw | hw | hw | hw | hw | hw | hw
  · exact pairs_0 which a imm rd x1 x2 a1 a2 i1 i2 r1 r2 t1 t2 hw w
  · exact pairs_1 which a imm rd x1 x2 a1 a2 i1 i2 r1 r2 t1 t2 hw w
  · exact pairs_2 which a imm rd x1 x2 a1 a2 i1 i2 r1 r2 t1 t2 hw w
  · exact pairs_3 which a imm rd x1 x2 a1 a2 i1 i2 r1 r2 t1 t2 hw w
  · exact pairs_4 which a imm rd x1 x2 a1 a2 i1 i2 r1 r2 t1 t2 hw w
  · exact pairs_5 which a imm rd x1 x2 a1 a2 i1 i2 r1 r2 t1 t2 hw w
  · exact pairs_6 which a imm rd x1 x2 a1 a2 i1 i2 r1 r2 t1 t2 hw w
  · exact pairs_7 which a imm rd x1 x2 a1 a2 i1 i2 r1 r2 t1 t2 hw w
  · exact pairs_8 which a imm rd x1 x2 a1 a2 i1 i2 r1 r2 t1 t2 hw w

end Go.Proofs.Ytmobkjdbjgopgaa
