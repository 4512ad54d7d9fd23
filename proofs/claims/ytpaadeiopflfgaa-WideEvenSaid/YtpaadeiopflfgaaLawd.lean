/- The walks of the laws WideApart and WideEven. -/
import Derived.Test.YtpaadeiopflfgaaAwaked
import Derived.Test.YtpaadeiopflfgaaPlaine
namespace Go.Proofs.Ytpaadeiopflfgaa
open Go.RowKit
set_option linter.unusedVariables false

theorem neq_ins (a b c d e a' b' c' d' e' : Int) (w : World) :
    (binOp .neq 25 (.agg #[.int .i64 a, .int .i64 b, .int .i64 c, .int .i64 d, .int .i32 e]) (.agg #[.int .i64 a', .int .i64 b', .int .i64 c', .int .i64 d', .int .i32 e'])).run Try.prog w = .ok (.bool (!(a == a' && b == b' && c == c' && d == d' && e == e'))) w := by
  simp [go_sem]
  by_cases h1 : a = a' <;> by_cases h2 : b = b' <;> by_cases h3 : c = c' <;> by_cases h4 : d = d' <;> by_cases h5 : e = e' <;> simp [h1, h2, h3, h4, h5]

def same5 (i k : In5) : Bool := i.op == k.op && i.rd == k.rd && i.rs1 == k.rs1 && i.rs2 == k.rs2 && i.imm == k.imm

theorem same5_eq (i k : In5) (h : same5 i k = true) : i = k := by
  simp only [same5, Bool.and_eq_true, beq_iff_eq] at h
  obtain ⟨⟨⟨⟨h1, h2⟩, h3⟩, h4⟩, h5⟩ := h
  cases i; cases k; simp_all

theorem apart_plain (a b : Int) (ha : 0 ≤ a) (ha' : a ≤ 4294967295) (hb : 0 ≤ b) (hb' : b ≤ 4294967295) (h1 : ((dec a).op == 0) = false) (h2 : ((dec b).op == 0) = false) (hne : (a == b) = false)
    (h : same5 (decI a) (decI b) = true) : ((decI a).op == 38) = true := by
  rw [beq_eq_false_iff_ne] at h1 h2 hne
  have e := same5_eq _ _ h
  unfold decI at e ⊢
  rw [if_neg h1] at e ⊢
  rw [if_neg h2] at e
  rw [beq_iff_eq]
  apply Classical.byContradiction
  intro h38
  have k1 := enc_dec a ha (by omega) h1 h38
  have k2 := enc_dec b hb (by omega) h2 (by rw [← e]; exact h38)
  rw [e, k2] at k1
  exact hne k1.symm

set_option maxHeartbeats 1000000 in
theorem WideApart_walk (a b : Int) (w0 : (Lit.int .u32 a).wf = true) (w1 : (Lit.int .u32 b).wf = true) (w : World) :
    Calls Try.prog 5 #[.int .u32 a, .int .u32 b] w fun e w' => e = .returned (.bool true) ∧ Nx w w' := by
  obtain ⟨ha, ha'⟩ := bounds_u32 w0
  obtain ⟨hb, hb'⟩ := bounds_u32 w1
  clear w0 w1
  have hp := Lib.hid (apart_plain a b ha ha' hb hb')
  go_enter Try.func5, Try.ntmps5
  go_wp2_with fail
  refine (awaked_any _).mono ?_
  rintro e w1 ⟨rfl, hn1⟩
  go_wp2_with fail
  refine (decode_any _ _ (by omega) (by omega)).mono ?_
  rintro e w2 ⟨rfl, hn2⟩
  go_wp2_with fail
  refine (decode_any _ _ (by omega) (by omega)).mono ?_
  rintro e w3 ⟨rfl, hn3⟩
  obtain ⟨c0, c1, c2, c3, c4, hz1⟩ := five_in hn3
  have hb := Lib.hid (hn1.trans (hn2.trans (((Nx.refl w2).alloc _).trans hn3)))
  have q1 := fun w => neq_ins (decI a).op (decI a).rd (decI a).rs1 (decI a).rs2 (decI a).imm (decI b).op (decI b).rd (decI b).rs1 (decI b).rs2 (decI b).imm w
  have hs : (((decI a).op == (decI b).op) && ((decI a).rd == (decI b).rd) && ((decI a).rs1 == (decI b).rs1) && ((decI a).rs2 == (decI b).rs2) && ((decI a).imm == (decI b).imm)) = same5 (decI a) (decI b) := rfl
  simp only [hs] at q1
  clear hs
  cases h1 : ((dec a).op == 0)
  · cases h2 : ((dec b).op == 0)
    · cases h3 : (a == b)
      · cases h4 : same5 (decI a) (decI b)
        · go_wp2
          go_ret
          exact ⟨rfl, hb.out.alloc _⟩
        · have h5 := hp.out h1 h2 h3 h4
          go_wp2
          go_ret
          exact ⟨rfl, hb.out.alloc _⟩
      · go_wp2
        go_ret
        exact ⟨rfl, hb.out.alloc _⟩
    · go_wp2
      go_ret
      exact ⟨rfl, hb.out.alloc _⟩
  · go_wp2
    go_ret
    exact ⟨rfl, hb.out.alloc _⟩

theorem even_signs (x : Int) (hx : 0 ≤ x) (hx' : x ≤ 4294967295) : (immI x < 0 ↔ 2147483648 ≤ x) ∧ (immS x < 0 ↔ 2147483648 ≤ x) ∧ (immB x < 0 ↔ 2147483648 ≤ x) ∧ (immU x < 0 ↔ 2147483648 ≤ x) ∧ (immJ x < 0 ↔ 2147483648 ≤ x) := by
  obtain ⟨o, a0, a1, f', b, c0, c1, d0, d1, e, h1, h2, h3, h4, h5, h6, h7, h8, h9, h10, h11, h12, h13, h14, h15, h16, h17, h18⟩ := digits x hx (by omega)
  have hI := immI_two x
  have hS := immS_two x
  have hB := immB_two x
  have hU := immU_two x
  have hJ := immJ_two x
  have kI : vI x = (c0 + 2 * c1) + 32 * (d0 + 64 * d1) := by unfold vI; omega
  have kS : vS x = (d0 + 64 * d1) * 32 + (a0 + 2 * a1) := by
    have : x / 33554432 % 128 = d0 + 64 * d1 := by omega
    have : x / 128 % 32 = a0 + 2 * a1 := by omega
    unfold vS; omega
  have kB : vB x = (((d1 * 2 + a0) * 64 + d0) * 16 + a1) * 2 := by
    have : x / 2147483648 % 2 = d1 := by omega
    have : x / 128 % 2 = a0 := by omega
    have : x / 33554432 % 64 = d0 := by omega
    have : x / 256 % 16 = a1 := by omega
    unfold vB; omega
  have kU : vU x = (f' + 8 * b + 256 * (c0 + 2 * c1) + 8192 * (d0 + 64 * d1)) * 4096 := by unfold vU; omega
  have kJ : vJ x = (((d1 * 256 + (f' + 8 * b)) * 2 + c0) * 1024 + (c1 + 16 * d0)) * 2 := by
    have : x / 2147483648 % 2 = d1 := by omega
    have : x / 4096 % 256 = f' + 8 * b := by omega
    have : x / 1048576 % 2 = c0 := by omega
    have : x / 2097152 % 1024 = c1 + 16 * d0 := by omega
    unfold vJ; omega
  rw [kI] at hI
  rw [kS] at hS
  rw [kB] at hB
  rw [kU] at hU
  rw [kJ] at hJ
  clear kI kS kB kU kJ
  have e1 : d1 = 0 ∨ d1 = 1 := by omega
  rcases e1 with rfl | rfl
  · have : ¬ 2147483648 ≤ x := by omega
    refine ⟨?_, ?_, ?_, ?_, ?_⟩ <;> (constructor <;> intro h <;> omega)
  · have : 2147483648 ≤ x := by omega
    refine ⟨?_, ?_, ?_, ?_, ?_⟩ <;> (constructor <;> intro h <;> omega)

theorem even_B (x : Int) : (immB x).tmod 2 = 0 := by
  have h := immB_two x
  have : 2 ∣ immB x := by
    have : vB x % 2 = 0 := by unfold vB; omega
    omega
  exact Int.tmod_eq_zero_of_dvd this

theorem even_J (x : Int) : (immJ x).tmod 2 = 0 := by
  have h := immJ_two x
  have : 2 ∣ immJ x := by
    have : vJ x % 2 = 0 := by unfold vJ; omega
    omega
  exact Int.tmod_eq_zero_of_dvd this

theorem even_U (x : Int) : (immU x).tmod 4096 = 0 := by
  have h := immU_two x
  have : 4096 ∣ immU x := by
    have : vU x % 4096 = 0 := by unfold vU; omega
    omega
  exact Int.tmod_eq_zero_of_dvd this

theorem even_I (x : Int) : -2048 ≤ immI x ∧ immI x < 2048 := by
  have h := immI_two x
  have : 0 ≤ vI x ∧ vI x < 4096 := by unfold vI; omega
  omega

set_option maxHeartbeats 2000000 in
theorem WideEven_walk (x : Int) (w0 : (Lit.int .u32 x).wf = true) (w : World) :
    Calls Try.prog 6 #[.int .u32 x] w fun e w' => e = .returned (.bool true) ∧ Nx w w' := by
  obtain ⟨hx, hx'⟩ := bounds_u32 w0
  clear w0
  have hx2 : x < 4294967296 := by omega
  obtain ⟨s1, s2, s3, s4, s5⟩ := even_signs x hx hx'
  have tB := even_B x
  have tJ := even_J x
  have tU := even_U x
  obtain ⟨i1, i2⟩ := even_I x
  by_cases hl : 2147483648 ≤ x
  all_goals
    first
      | (have n1 := s1.2 hl; have n2 := s2.2 hl; have n3 := s3.2 hl; have n4 := s4.2 hl; have n5 := s5.2 hl)
      | (have n1 : ¬ immI x < 0 := fun c => hl (s1.1 c); have n2 : ¬ immS x < 0 := fun c => hl (s2.1 c); have n3 : ¬ immB x < 0 := fun c => hl (s3.1 c); have n4 : ¬ immU x < 0 := fun c => hl (s4.1 c); have n5 : ¬ immJ x < 0 := fun c => hl (s5.1 c); have m1 : decide (2147483648 ≤ x) = false := by simpa using hl)
    clear s1 s2 s3 s4 s5
    go_enter Try.func6, Try.ntmps6
    go_wp2_with fail
    refine (awaked_any _).mono ?_
    rintro e w1 ⟨rfl, hn1⟩
    go_wp2_with fail
    refine (immI_any _ _ hx hx2).mono ?_
    rintro e w2 ⟨rfl, hn2⟩
    go_wp2_with fail
    refine (immS_any _ _ hx hx2).mono ?_
    rintro e w3 ⟨rfl, hn3⟩
    go_wp2_with fail
    refine (immB_any _ _ hx hx2).mono ?_
    rintro e w4 ⟨rfl, hn4⟩
    go_wp2_with fail
    refine (immU_any _ _ hx hx2).mono ?_
    rintro e w5 ⟨rfl, hn5⟩
    go_wp2_with fail
    refine (immJ_any _ _ hx hx2).mono ?_
    rintro e w6 ⟨rfl, hn6⟩
    have hb := Lib.hid (hn1.trans (hn2.trans (hn3.trans (hn4.trans (hn5.trans hn6)))))
    clear hn1 hn2 hn3 hn4 hn5 hn6
    go_wp2
    go_loop [5, 22] (fun v i => ∃ k : Nat, k ≤ 5 ∧ i = .int .i64 k) (fun _ i => 5 - (intOf i).toNat)
    case atStart => exact ⟨0, by omega, rfl⟩
    case round =>
      obtain ⟨k, hk, rfl⟩ := hrel
      rcases (by omega : k = 0 ∨ k = 1 ∨ k = 2 ∨ k = 3 ∨ k = 4 ∨ k = 5) with rfl | rfl | rfl | rfl | rfl | rfl
      case inr.inr.inr.inr.inr =>
        go_wp2_with fail
        refine (immB_any _ _ hx hx2).mono ?_
        rintro e w7 ⟨rfl, hn7⟩
        go_wp2_with fail
        refine (immJ_any _ _ hx hx2).mono ?_
        rintro e w8 ⟨rfl, hn8⟩
        go_wp2_with fail
        refine (immU_any _ _ hx hx2).mono ?_
        rintro e w9 ⟨rfl, hn9⟩
        go_wp2_with fail
        refine (immI_any _ _ hx hx2).mono ?_
        rintro e w10 ⟨rfl, hn10⟩
        go_wp2_with fail
        refine (immI_any _ _ hx hx2).mono ?_
        rintro e w11 ⟨rfl, hn11⟩
        go_wp2
        go_ret
        exact ⟨rfl, (hb.out.alloc _).trans (hn7.trans (hn8.trans (hn9.trans (hn10.trans hn11))))⟩
      all_goals
        go_wp2
        go_round
        case rel => first | exact ⟨1, by omega, rfl⟩ | exact ⟨2, by omega, rfl⟩ | exact ⟨3, by omega, rfl⟩ | exact ⟨4, by omega, rfl⟩ | exact ⟨5, by omega, rfl⟩
        case measure => simp [intOf]

end Go.Proofs.Ytpaadeiopflfgaa
