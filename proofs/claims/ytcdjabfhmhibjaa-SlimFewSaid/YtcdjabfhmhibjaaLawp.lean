/- The walks of the laws SlimExpands and SlimFew. -/
import Derived.Test.YtcdjabfhmhibjaaAwakee
import Derived.Test.YtcdjabfhmhibjaaRefef
import Derived.Test.YtcdjabfhmhibjaaRefcb
namespace Go.Proofs.Ytcdjabfhmhibjaa
open Go.RowKit
set_option linter.unusedVariables false
set_option linter.unusedSimpArgs false

set_option maxHeartbeats 1000000 in
theorem SlimExpands_walk (x : Int) (w0 : (Lit.int .u16 x).wf = true) (w : World) :
    Calls Try.prog 3 #[.int .u16 x] w fun e w' => e = .returned (.bool true) ∧ Nx w w' := by
  obtain ⟨hx, hx'⟩ := bounds_u16 w0
  clear w0
  have hx2 : x < 65536 := by omega
  obtain ⟨b1, b2⟩ := exp_imm x
  have HM := Lib.hid (exp_may x)
  have HC := Lib.hid (fun w => expand_e x w hx hx2)
  have HR := Lib.hid (fun w => rexp_any x w hx hx2)
  have e1 := Lib.hid (exp_pos x)
  have hr := HR.out
  rw [← e1.out] at hr
  unfold insV at hr
  have HD := Lib.hid hr
  clear hr HR e1
  generalize expI x = I at *
  go_enter Try.func3, Try.ntmps3
  go_wp2_with fail
  refine (awakee_any _).mono ?_
  rintro e w1 ⟨rfl, hn1⟩
  go_wp2_with fail
  refine (HC.out _).mono ?_
  rintro e w2 ⟨rfl, hn2⟩
  go_wp2_with fail
  refine (HD.out _).mono ?_
  rintro e w3 ⟨rfl, hn3⟩
  obtain ⟨c0, c1, c2, c3, c4, hz1⟩ := five_in hn3
  have hb := Lib.hid (hn1.trans (hn2.trans (((Nx.refl w2).alloc _).trans hn3)))
  clear hn1 hn2 hn3
  have q1 := fun w => eql_ins I.op I.rd I.rs1 I.rs2 I.imm I.op I.rd I.rs1 I.rs2 I.imm w
  have hs : ((I.op == I.op) && (I.rd == I.rd) && (I.rs1 == I.rs1) && (I.rs2 == I.rs2) && (I.imm == I.imm)) = true := by simp
  simp only [hs] at q1
  clear hs
  cases h1 : (I.op == 0)
  · have h2 := HM.out h1
    go_wp2_with (go_at_call 8; refine (rmay_any _ _ _ _ _ _ b1 b2).mono ?_; rintro e w' ⟨rfl, hn4⟩)
    go_ret
    exact ⟨rfl, (hb.out.alloc _).trans hn4⟩
  · go_wp2
    go_ret
    exact ⟨rfl, hb.out.alloc _⟩

theorem few5_in (n : Int) (w : World) (h : 8 ≤ n) (h' : n < 16) : Calls Try.prog 9 #[.int .i64 n] w fun e w' => e = .returned (.bool true) ∧ w' = w := by
  go_enter Try.func9, Try.ntmps9
  go_wp2
  go_ret
  exact ⟨rfl, rfl⟩

set_option maxHeartbeats 1000000 in
theorem sf_a (x : Int) (w : World) (hx : 0 ≤ x) (hx' : x < 65536) (h4 : x % 4 = 3) :
    Calls Try.prog 4 #[.int .u16 x] w fun e w' => e = .returned (.bool true) ∧ Nx w w' := by
  have hm : x % 65536 = x := by omega
  have he := exp_3 x h4
  have q1 := fun w => eql_ins 0 0 0 0 0 0 0 0 0 0 w
  go_enter Try.func4, Try.ntmps4
  go_wp2_with fail
  refine (awakee_any _).mono ?_
  rintro e w1 ⟨rfl, hn1⟩
  go_wp2_with fail
  refine (expand_v x _ _ hx hx' he).mono ?_
  rintro e w2 ⟨rfl, hn2⟩
  have HN := Lib.hid (hn1.trans hn2)
  clear hn1 hn2
  dsimp only [none5]
  go_wp2
  go_ret
  refine ⟨rfl, ?_⟩
  repeat (with_reducible first | exact HN.out | refine Nx.alloc ?_ _ | refine Nx.setCell ?_ (Nat.le_refl _) _)

set_option maxHeartbeats 1000000 in
theorem sf_b (x : Int) (w : World) (hx : 0 ≤ x) (hx' : x < 65536) (h4 : x % 4 = 1 ∨ x % 4 = 2) :
    Calls Try.prog 4 #[.int .u16 x] w fun e w' => e = .returned (.bool true) ∧ Nx w w' := by
  have hm : x % 65536 = x := by omega
  have HC := Lib.hid (fun w => expand_e x w hx hx')
  generalize expI x = I at HC
  rcases h4 with h4 | h4
  all_goals
    go_enter Try.func4, Try.ntmps4
    go_wp2_with fail
    refine (awakee_any _).mono ?_
    rintro e w1 ⟨rfl, hn1⟩
    go_wp2_with fail
    refine (HC.out _).mono ?_
    rintro e w2 ⟨rfl, hn2⟩
    have HN := Lib.hid (hn1.trans hn2)
    clear hn1 hn2
    go_wp2
    go_ret
    refine ⟨rfl, ?_⟩
    repeat (with_reducible first | exact HN.out | refine Nx.alloc ?_ _ | refine Nx.setCell ?_ (Nat.le_refl _) _)

set_option maxHeartbeats 1000000 in
theorem sf_n (x : Int) (w : World) (hx : 0 ≤ x) (hx' : x < 65536) (h4 : x % 4 = 0) (he : expI x = none5) :
    Calls Try.prog 4 #[.int .u16 x] w fun e w' => e = .returned (.bool true) ∧ Nx w w' := by
  have hm : x % 65536 = x := by omega
  go_enter Try.func4, Try.ntmps4
  go_wp2_with fail
  refine (awakee_any _).mono ?_
  rintro e w1 ⟨rfl, hn1⟩
  go_wp2_with fail
  refine (expand_v x _ _ hx hx' he).mono ?_
  rintro e w2 ⟨rfl, hn2⟩
  have HN := Lib.hid (hn1.trans hn2)
  clear hn1 hn2
  dsimp only [none5]
  go_wp2
  go_ret
  refine ⟨rfl, ?_⟩
  repeat (with_reducible first | exact HN.out | refine Nx.alloc ?_ _ | refine Nx.setCell ?_ (Nat.le_refl _) _)

set_option maxHeartbeats 1000000 in
theorem sf_19 (x r u : Int) (w : World) (hx : 0 ≤ x) (hx' : x < 65536) (h4 : x % 4 = 0) (he : expI x = ⟨19, r, 2, 0, u⟩) (r1 : 8 ≤ r) (r2 : r < 16) (u1 : 0 < u) (u2 : u < 1024) (u3 : u % 4 = 0) :
    Calls Try.prog 4 #[.int .u16 x] w fun e w' => e = .returned (.bool true) ∧ Nx w w' := by
  have hm : x % 65536 = x := by omega
  have ht : Int.tmod u 4 = 0 := by rw [Int.tmod_eq_emod_of_nonneg (by omega)]; exact u3
  go_enter Try.func4, Try.ntmps4
  go_wp2_with fail
  refine (awakee_any _).mono ?_
  rintro e w1 ⟨rfl, hn1⟩
  go_wp2_with fail
  refine (expand_v x _ _ hx hx' he).mono ?_
  rintro e w2 ⟨rfl, hn2⟩
  have HN := Lib.hid (hn1.trans hn2)
  clear hn1 hn2
  dsimp only
  go_wp2_with (go_at_call 9; refine (few5_in _ _ (by omega) (by omega)).mono ?_; rintro e w' ⟨rfl, rfl⟩)
  go_ret
  refine ⟨by simp [ht], ?_⟩
  repeat (with_reducible first | exact HN.out | refine Nx.alloc ?_ _ | refine Nx.setCell ?_ (Nat.le_refl _) _)

set_option maxHeartbeats 1000000 in
theorem sf_13 (x r s v : Int) (w : World) (hx : 0 ≤ x) (hx' : x < 65536) (h4 : x % 4 = 0) (he : expI x = ⟨13, r, s, 0, v⟩) (r1 : 8 ≤ r) (r2 : r < 16) (s1 : 8 ≤ s) (s2 : s < 16) (u1 : 0 ≤ v) (u2 : v < 128) :
    Calls Try.prog 4 #[.int .u16 x] w fun e w' => e = .returned (.bool true) ∧ Nx w w' := by
  have hm : x % 65536 = x := by omega
  go_enter Try.func4, Try.ntmps4
  go_wp2_with fail
  refine (awakee_any _).mono ?_
  rintro e w1 ⟨rfl, hn1⟩
  go_wp2_with fail
  refine (expand_v x _ _ hx hx' he).mono ?_
  rintro e w2 ⟨rfl, hn2⟩
  have HN := Lib.hid (hn1.trans hn2)
  clear hn1 hn2
  dsimp only
  go_wp2_with (go_at_call 9; refine (few5_in _ _ (by omega) (by omega)).mono ?_; rintro e w' ⟨rfl, rfl⟩)
  go_ret
  refine ⟨rfl, ?_⟩
  repeat (with_reducible first | exact HN.out | refine Nx.alloc ?_ _ | refine Nx.setCell ?_ (Nat.le_refl _) _)

set_option maxHeartbeats 1000000 in
theorem sf_18 (x r s v : Int) (w : World) (hx : 0 ≤ x) (hx' : x < 65536) (h4 : x % 4 = 0) (he : expI x = ⟨18, 0, r, s, v⟩) (r1 : 8 ≤ r) (r2 : r < 16) (s1 : 8 ≤ s) (s2 : s < 16) (u1 : 0 ≤ v) (u2 : v < 128) :
    Calls Try.prog 4 #[.int .u16 x] w fun e w' => e = .returned (.bool true) ∧ Nx w w' := by
  have hm : x % 65536 = x := by omega
  go_enter Try.func4, Try.ntmps4
  go_wp2_with fail
  refine (awakee_any _).mono ?_
  rintro e w1 ⟨rfl, hn1⟩
  go_wp2_with fail
  refine (expand_v x _ _ hx hx' he).mono ?_
  rintro e w2 ⟨rfl, hn2⟩
  have HN := Lib.hid (hn1.trans hn2)
  clear hn1 hn2
  dsimp only
  go_wp2_with (go_at_call 9; refine (few5_in _ _ (by omega) (by omega)).mono ?_; rintro e w' ⟨rfl, rfl⟩)
  go_ret
  refine ⟨rfl, ?_⟩
  repeat (with_reducible first | exact HN.out | refine Nx.alloc ?_ _ | refine Nx.setCell ?_ (Nat.le_refl _) _)

theorem SlimFew_walk (x : Int) (w0 : (Lit.int .u16 x).wf = true) (w : World) :
    Calls Try.prog 4 #[.int .u16 x] w fun e w' => e = .returned (.bool true) ∧ Nx w w' := by
  obtain ⟨hx, hx1⟩ := bounds_u16 w0
  clear w0
  have hx' : x < 65536 := by omega
  rcases (by omega : x % 4 = 0 ∨ x % 4 = 1 ∨ x % 4 = 2 ∨ x % 4 = 3) with h4 | h4 | h4 | h4
  · rcases exp_few x h4 with h | ⟨r, u, h, r1, r2, u1, u2, u3⟩ | ⟨r, s, v, h, r1, r2, s1, s2, u1, u2⟩ | ⟨r, s, v, h, r1, r2, s1, s2, u1, u2⟩
    · exact sf_n x w hx hx' h4 h
    · exact sf_19 x r u w hx hx' h4 h r1 r2 u1 u2 u3
    · exact sf_13 x r s v w hx hx' h4 h r1 r2 s1 s2 u1 u2
    · exact sf_18 x r s v w hx hx' h4 h r1 r2 s1 s2 u1 u2
  · exact sf_b x w hx hx' (Or.inl h4)
  · exact sf_b x w hx hx' (Or.inr h4)
  · exact sf_a x w hx hx' h4

end Go.Proofs.Ytcdjabfhmhibjaa
