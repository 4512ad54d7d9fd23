/- Parts of the proof, one behind the other. -/
import Derived.Test.YtndpgakjpokllaaGreatZsac
import Derived.Test.YtndpgakjpokllaaGreatZsah
import Derived.Test.YtndpgakjpokllaaGreatZsai
/- Contracts of package typecaseref05: fields, lists of bits, their numbers. -/
namespace Go.Proofs.YtndpgakjpokllaaGreat
open Go.RowKit
set_option linter.unusedVariables false
set_option linter.unusedSimpArgs false

set_option maxHeartbeats 400000 in
theorem efield_any (x a b : Int) (n : Nat) (w : World) (hx : 0 ≤ x) (hx' : x < 65536) (hb : 0 ≤ b) (hb' : b ≤ 31) (ha : b ≤ a) (ha' : a ≤ 31) (hn : (a - b + 1).toNat = n) :
    Calls Tryz.prog 79 #[.int .u32 x, .int .i64 a, .int .i64 b] w fun e w' => e = .returned (.int .i64 (fld x b.toNat n)) ∧ w = w' := by
  subst hn
  have f0 := fld_nonneg x b.toNat (a - b + 1).toNat
  have f1 := fld_u32 x b.toNat (a - b + 1).toNat (by omega)
  go_enter Tryz.func79, Tryz.ntmps79
  go_wp2_with (go_at_call 51; refine (rfield_in _ _ _ _ (by omega) (by omega) (by omega) (by omega) (by omega) (by omega)).mono ?_; rintro e w' ⟨rfl, rfl⟩)
  go_ret
  exact ⟨rfl, rfl⟩

set_option maxHeartbeats 400000 in
theorem efew_any (x l : Int) (w : World) (hx : 0 ≤ x) (hx' : x < 65536) (hb : 0 ≤ l) (hb' : l ≤ 20) :
    Calls Tryz.prog 80 #[.int .u32 x, .int .i64 l] w fun e w' => e = .returned (.int .i64 (8 + fld x l.toNat 3)) ∧ w = w' := by
  have f0 := fld_nonneg x l.toNat 3
  have f1 : fld x l.toNat 3 < 8 := fld_lt x l.toNat 3
  go_enter Tryz.func80, Tryz.ntmps80
  go_wp2_with (go_at_call 79; refine (efield_any _ _ _ 3 _ hx hx' (by omega) (by omega) (by omega) (by omega) (by omega)).mono ?_; rintro e w' ⟨rfl, rfl⟩)
  go_ret
  exact ⟨rfl, rfl⟩

set_option maxHeartbeats 1000000 in
theorem elist_any (nn : Int) (l : List Int) (g n c m : Nat) (w : World) (h0 : 0 ≤ nn) (h1 : nn ≤ 100) (hn : l.length = n) (hl : n ≤ 100) (hp : 0 < n) (hm : n + nn.toNat = m) (hi : Ints w g l) :
    Calls Tryz.prog 78 #[.int .i64 nn, .slice (some ⟨g, 0, none⟩) n c] w (RetRow w m (l ++ List.replicate nn.toNat (-1))) := by
  subst hm
  have HI := Lib.hid hi
  clear hi
  go_enter Tryz.func78, Tryz.ntmps78
  have OA := Lib.hid (own_new w w.heap.size 0 [] rfl (Nat.le_refl _) (by omega))
  have n1 : Nx w (w.alloc (.cells #[] 3)) := (Nx.refl _).alloc _
  have I1 := Lib.hid (HI.out.keep n1)
  have tok : True := trivial
  go_wp2_with (at_builtin; have _t := tok; refine wp_append_row rfl _ _ rfl w.heap.size w.heap.size 0 0 g n c n [] l rfl rfl OA.out hn I1.out (Nat.zero_add n) hp (by omega) n1.size ?_; intro gR cR w3 oR gr3; have OR := Lib.hid oR; have n3 : Nx w w3 := Nx.grown n1 gr3 (fun k hk => by have e := Option.some.inj hk; subst e; exact Nat.le_refl _); clear oR gr3; clear tok)
  clear OA n1 I1
  go_loopw [5, 6] (fun v i wr => ∃ k g' c' : Nat, (k : Int) ≤ nn ∧ i = .int .i64 k ∧ v = .slice (some ⟨g', 0, none⟩) (n + k) c' ∧ Hid (wr.ownsRow w.heap.size 3 1 v (n + k) ((l ++ List.replicate k (-1)).map (Value.int .i64))) ∧ Nx w wr) (fun _ i _ => (nn - Go.RowKit.intOf i).toNat)
  case atStart => exact ⟨0, gR, cR, by omega, rfl, rfl, Lib.hid (by simpa using OR.out), n3⟩
  case round =>
    clear OR n3
    obtain ⟨k, g', c', hk, rfl, rfl, hown, hnx⟩ := hrel
    by_cases hlt : (k : Int) < nn
    · have O2 := Lib.hid (own_nx hown.out ((Nx.refl wr).alloc (.cells #[.int .i64 (-1)] 3)))
      have J2 : Ints (wr.alloc (.cells #[.int .i64 (-1)] 3)) wr.heap.size [-1] := by
        intro j x hx
        cases j with
        | zero => have e : -1 = x := by simpa using hx
                  subst e; simp
        | succ j => simp at hx
      have I2 := Lib.hid J2
      clear J2
      have HT := Lib.hid (show (l ++ List.replicate k (-1)) ++ [-1] = l ++ List.replicate (k + 1) (-1) by rw [List.append_assoc, List.replicate_succ'])
      go_wp2_with (at_builtin; refine wp_append_row rfl _ _ rfl w.heap.size g' (n + k) c' wr.heap.size 1 1 (n + (k + 1)) _ [-1] rfl rfl O2.out rfl I2.out (by omega) (by omega) (by omega) (hnx.alloc _).size ?_; intro gR cR w3 oR gr3; rw [HT.out] at oR; have OR := Lib.hid oR; have n3 : Nx w w3 := Nx.grown (hnx.alloc _) gr3 (fun k hk => by have e := Option.some.inj hk; subst e; exact own_block hown.out _ rfl); clear oR gr3)
      go_roundw
      case rel => exact ⟨k + 1, gR, cR, by omega, by go_num, rfl, OR, n3⟩
      case measure => simp [Go.RowKit.intOf]; omega
    · have e : nn.toNat = k := by omega
      have HE := Lib.hid e
      clear e
      go_wp2
      go_ret
      rw [HE.out]
      exact ⟨g', c', rfl, hown.out, hnx⟩

set_option maxHeartbeats 1000000 in
theorem eplain_any (x : Int) (l : List Int) (g n c : Nat) (w : World) (hx : 0 ≤ x) (hx' : x < 65536) (hn : l.length = n) (hl : n ≤ 100) (hi : Ints w g l) :
    Calls Tryz.prog 77 #[.int .u32 x, .slice (some ⟨g, 0, none⟩) n c] w fun e w' => e = .returned (.int .i32 (sgn (hor x 0 (-1 :: l)) (cl (1 + n : Nat)))) ∧ Nx w w' := by
  have HI := Lib.hid hi
  clear hi
  go_enter Tryz.func77, Tryz.ntmps77
  have OA := Lib.hid (own_new w w.heap.size 1 [-1] rfl (Nat.le_refl _) (by omega))
  have n1 : Nx w (w.alloc (.cells #[.int .i64 (-1)] 3)) := (Nx.refl _).alloc _
  have I1 := Lib.hid (HI.out.keep n1)
  have tok : True := trivial
  go_wp2_with (at_builtin; have _t := tok; refine wp_append_row rfl _ _ rfl w.heap.size w.heap.size 1 1 g n c (1 + n) [-1] l rfl rfl OA.out hn I1.out rfl (by omega) (by omega) n1.size ?_; intro gR cR w3 oR gr3; have OR := Lib.hid oR; have n3 : Nx w w3 := Nx.grown n1 gr3 (fun k hk => by have e := Option.some.inj hk; subst e; exact Nat.le_refl _); clear oR gr3; clear tok)
  have II := Lib.hid (own_row OR.out (by simp; omega))
  refine (bits_any x gR (1 + n) cR ([-1] ++ l) (by simp; omega) w3 hx (by omega) (by simp; omega) II.out).mono ?_
  rintro e w99 ⟨rfl, rfl⟩
  go_wp2
  go_ret
  exact ⟨ret_i32 rfl, n3⟩

end Go.Proofs.YtndpgakjpokllaaGreat

/- Plain: what the machine decodes may be. -/
namespace Go.Proofs.YtndpgakjpokllaaGreat
open Go.RowKit
set_option linter.unusedVariables false

theorem fit_sgn (v : Int) (n : Nat) (h : n ≤ 32) : fitB (sgn v n) n = true := by
  unfold fitB
  rw [beq_iff_eq, sgn_emod _ _ h, sgn_sgn]

theorem even_of (v : Int) (n : Nat) (h : v % 2 = 0) (hn : 0 < n) : sgn v n % 2 = 0 := by
  obtain ⟨k, rfl⟩ : ∃ k, n = k + 1 := ⟨n - 1, by omega⟩
  have h1 := Int.bmod_emod (x := v) (m := 2 ^ (k + 1))
  rw [pow_cast] at h1
  unfold sgn
  have h2 : (2 : Int) ∣ 2 ^ (k + 1) := ⟨2 ^ k, by rw [Int.pow_succ, Int.mul_comm]⟩
  have h3 := Int.emod_emod_of_dvd (Int.bmod v (2 ^ (k + 1))) h2
  have h4 := Int.emod_emod_of_dvd v h2
  rw [← h3, h1, h4, h]

theorem num_imm (f x : Int) (h : 1 ≤ f) (h9 : f ≤ 9) : numB f (immF f x) = true := by
  rcases (by omega : f = 1 ∨ f = 2 ∨ f = 3 ∨ f = 4 ∨ f = 5 ∨ f = 6 ∨ f = 7 ∨ f = 8 ∨ f = 9) with rfl | rfl | rfl | rfl | rfl | rfl | rfl | rfl | rfl
  · have h1 := jU_two x
    have h2 : vU x % 4096 = 0 := by unfold vU; omega
    simp only [numB, immF]
    simp
    omega
  · have h2 : vJ x % 2 = 0 := by unfold vJ; omega
    have e1 := even_of (vJ x) 21 h2 (by omega)
    have e2 := fit_sgn (vJ x) 21 (by omega)
    simp [numB, immF, jJ, e1, e2]
  · have h2 : vB x % 2 = 0 := by unfold vB; omega
    have e1 := even_of (vB x) 13 h2 (by omega)
    have e2 := fit_sgn (vB x) 13 (by omega)
    simp [numB, immF, jB, e1, e2]
  · have e2 := fit_sgn (vI x) 12 (by omega)
    simp [numB, immF, jI, e2]
  · have e2 := fit_sgn (vS x) 12 (by omega)
    simp [numB, immF, jS, e2]
  · have e2 := fit_sgn (vI x) 12 (by omega)
    simp [numB, immF, jI, e2]
  · simp [numB, immF]; omega
  · simp [numB, immF]
  · simp [numB, immF]

theorem reg_if (c : Bool) (n : Int) : regB (if c = true then n % 32 else 0) c = true := by
  cases c <;> simp [regB]; omega

theorem may_dec (x : Int) (h0 : (decP x).op ≠ 0) : mayB (decP x).op (decP x).rd (decP x).rs1 (decP x).rs2 (decP x).imm = true := by
  have e := dec_parts x h0
  have hf : ¬ formN (decP x).op = 0 := fun c => h0 (formN_zero x c)
  have hr := formN_range (decP x).op
  have q1 : (decP x).rd = _ := congrArg In5.rd e
  have q2 : (decP x).rs1 = _ := congrArg In5.rs1 e
  have q3 : (decP x).rs2 = _ := congrArg In5.rs2 e
  have q4 : (decP x).imm = _ := congrArg In5.imm e
  rw [q1, q2, q3, q4]
  generalize (decP x).op = op at *
  unfold mayB partsF
  dsimp only
  have a1 := reg_if (needD (formN op)) (x / 128)
  have a2 := reg_if (needS (formN op)) (x / 32768)
  have a3 := reg_if (needT (formN op)) (x / 1048576)
  have a4 := num_imm (formN op) x (by omega) (by omega)
  rw [a1, a2, a3, a4]
  simp [hf]

theorem may_decJ (x : Int) (h0 : ((decP x).op == 0) = false) : mayB (decJ x).op (decJ x).rd (decJ x).rs1 (decJ x).rs2 (decJ x).imm = true := by
  rw [beq_eq_false_iff_ne] at h0
  unfold decJ
  rw [if_neg h0]
  exact may_dec x h0

theorem dec_imm_bd (x : Int) : -2147483648 ≤ (decJ x).imm ∧ (decJ x).imm ≤ 2147483647 := by
  unfold decJ
  by_cases h0 : (decP x).op = 0
  · rw [if_pos h0]; exact ⟨by decide, by decide⟩
  · rw [if_neg h0]
    have e := dec_parts x h0
    have q4 : (decP x).imm = _ := congrArg In5.imm e
    rw [q4]
    unfold partsF immF
    dsimp only
    repeat' split
    · exact sgn_bd _ 32 (by omega)
    · exact sgn_bd _ 21 (by omega)
    · exact sgn_bd _ 13 (by omega)
    · exact sgn_bd _ 12 (by omega)
    · exact sgn_bd _ 12 (by omega)
    · omega
    · omega

end Go.Proofs.YtndpgakjpokllaaGreat

/- Plain: what package wide computes is the plain decoding. -/
namespace Go.Proofs.YtndpgakjpokllaaGreat
open Go.RowKit
set_option linter.unusedVariables false

theorem immI_eq (x : Int) : immI x = jI x := by
  unfold immI jI vI; congr 1; simp [runsVW, rsI, runVW, fld]; omega

theorem immS_eq (x : Int) : immS x = jS x := by
  unfold immS jS vS; congr 1; simp [runsVW, rsSW, runVW, fld]; omega

theorem immB_eq (x : Int) : immB x = jB x := by
  unfold immB jB vB; congr 1; simp [runsVW, rsBW, runVW, fld]; omega

theorem immU_eq (x : Int) : immU x = jU x := by
  unfold immU jU vU; congr 1; simp [runsVW, rsUW, runVW, fld]; omega

theorem immJ_eq (x : Int) : immJ x = jJ x := by
  unfold immJ jJ vJ; congr 1; simp [runsVW, rsJW, runVW, fld]; omega

theorem fldv (x : Int) : fld x 0 7 = x % 128 ∧ fld x 7 5 = x / 128 % 32 ∧ fld x 12 3 = x / 4096 % 8 ∧ fld x 15 5 = x / 32768 % 32 ∧ fld x 20 5 = x / 1048576 % 32 ∧ fld x 25 7 = x / 33554432 % 128 := by
  simp [fld]

theorem dec_eq (x : Int) : dec x = decP x := by
  obtain ⟨e1, e2, e3, e4, e5, e6⟩ := fldv x
  unfold dec decP
  rw [e1, e2, e3, e4, e5, e6, immI_eq, immS_eq, immB_eq, immU_eq, immJ_eq]

end Go.Proofs.YtndpgakjpokllaaGreat

