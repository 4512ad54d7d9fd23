/- Package typecaselaw10: the walk of LexNumbers. -/
import Derived.Test.YtbkgdepblaibkaaDoorLawlb
import Derived.Test.YtbkgdepblaibkaaDoorLxl
import Derived.Test.YtbkgdepblaibkaaDoorPlain
namespace Go.Proofs.YtbkgdepblaibkaaDoor
open Go.RowKit
set_option linter.unusedVariables false
set_option linter.unusedSimpArgs false

theorem decs (m : Nat) (hm : m < 4294967296) : ∃ d e : Nat, d = m % 10 ∧ e = m / 10 ∧ d < 10 ∧ e < 4294967296 ∧ (m : Int).tmod 10 = d ∧ IntKind.u32.wrap ((m : Int) / 10) = e := by
  refine ⟨_, _, rfl, rfl, by omega, by omega, ?_, ?_⟩
  · rw [Int.tmod_eq_emod_of_nonneg (by omega)]; omega
  · rw [IntKind.wrap_u32]; omega

theorem wrap2 (d : Nat) (h : d < 16) : IntKind.u32.wrap ((d : Int) + 1) = (d : Int) + 1 := by
  rw [IntKind.wrap_u32]; omega

theorem dig_cut (k : Nat) (hk : k < 10) : (B digN).extract k (k + 1) = B [digN.getD k 0] := by
  apply ByteArray.ext
  rw [ByteArray.data_extract]
  exact (show ∀ k, k < 10 → digN.toArray.extract k (k + 1) = [digN.getD k 0].toArray by decide) k hk

theorem hexB_cut (k : Nat) (hk : k < 16) : (B hexB).extract k (k + 1) = B [hexB.getD k 0] := by
  apply ByteArray.ext
  rw [ByteArray.data_extract]
  exact (show ∀ k, k < 16 → hexB.toArray.extract k (k + 1) = [hexB.getD k 0].toArray by decide) k hk

theorem nib_at (v j : Nat) (hv : v < 4294967296) : ∃ d : Nat, d = v / 16 ^ j % 16 ∧ d < 16 ∧ bits BinOp.and IntKind.u32 ((v : Int) / 2 ^ (4 * j)) 15 = d := by
  refine ⟨_, rfl, by omega, ?_⟩
  have h := field_spell (v : Int) (4 * j) 4 (by omega) (by omega) (by omega)
  have e : ((2 : Int) ^ 4 - 1) % 4294967296 = 15 := by decide
  rw [e] at h
  rw [h]
  unfold fld
  have : (2 : Nat) ^ (4 * j) = 16 ^ j := by rw [Nat.pow_mul]
  rw [← this]
  simp

theorem mod_step (v j d : Nat) (hd : d = v / 16 ^ j % 16) : d * 16 ^ j + v % 16 ^ j = v % 16 ^ (j + 1) := by
  rw [hd, Nat.pow_succ, Nat.mod_mul, Nat.mul_comm (16 ^ j)]
  omega

set_option maxHeartbeats 1000000 in
set_option maxRecDepth 100000 in
theorem LexNumbers_walk (n : Int) (hn0 : 0 ≤ n) (hn1 : n < 4294967296) (w0 : World) (hE : ErrT w0) :
    Calls Tryd.prog 14 #[.int .u32 n] w0 fun e w' => e = .returned (.bool true) ∧ Nx w0 w' := by
  obtain ⟨v, rfl⟩ : ∃ v : Nat, n = v := ⟨n.toNat, by omega⟩
  have hv : v < 4294967296 := by omega
  have HE := Lib.hid hE
  clear hE hn0 hn1
  go_enter Tryd.func14, Tryd.ntmps14
  go_wp2_with fail
  refine (awakel_any _ HE.out).mono ?_
  rintro e w1 ⟨rfl, hn1⟩
  have H1 := Lib.hid hn1
  clear hn1
  go_wp2
  go_loopw [3, 5, 6] (fun dv nv kv wr => ∃ (j m : Nat) (D : List UInt8), kv = .int .i64 j ∧ nv = .int .u32 m ∧ dv = .string (B D) ∧ D.length = j ∧ j < 10 ∧ m ≤ v ∧ Hid (m * 10 ^ j + valD 10 D = v ∧ (∀ c ∈ D, digN.contains c = true) ∧ (j = 0 ∨ 0 < m)) ∧ Nx w0 wr) (fun _ _ kv _ => 10 - (intOf kv).toNat)
  case atStart => exact ⟨0, v, [], rfl, rfl, rfl, rfl, by omega, Nat.le_refl _, Lib.hid ⟨by simp [valD], by simp, Or.inl rfl⟩, H1.out⟩
  case round =>
    obtain ⟨j, m, D, rfl, rfl, rfl, hDl, hj, hmv, HR, hn⟩ := hrel
    have HN := Lib.hid hn
    clear hn H1
    have hjI : decide ((j : Int) < 10) = true := decide_eq_true (by omega)
    obtain ⟨d, e, hd, he, hd10, he32, r1, r2⟩ := decs m (by omega)
    have HD := Lib.hid (And.intro hd he)
    clear hd he
    have r3 := wrap2 d (by omega)
    have t1 : (0 : Int) ≤ (d : Int) + 1 := by omega
    have t2 : (d : Int) ≤ (d : Int) + 1 := by omega
    have r5 : (d : Int) + 1 ≤ 10 := by omega
    have r7 : ({ data := #[48, 49, 50, 51, 52, 53, 54, 55, 56, 57] } : ByteArray).extract d (d + 1) = B [digN.getD d 0] := dig_cut d hd10
    have hst : ¬ 9223372036854775807 < 1 + D.length := by omega
    generalize hc1' : digN.getD d 0 = c1 at r7
    have HC := Lib.hid hc1'
    clear hc1'
    by_cases he0 : e = 0
    · have z : ((e : Int) == 0) = true := by rw [he0]; rfl
      go_wp2
      have HDV := Lib.hid (show (∀ c ∈ c1 :: D, digN.contains c = true) ∧ valD 10 (c1 :: D) = v ∧ 1 ≤ (c1 :: D).length ∧ (c1 :: D).length ≤ 10 from by
        obtain ⟨k1, k2, k3⟩ := HR.out
        have hf := dig_facts d hd10
        rw [HC.out] at hf
        have hm : m = d := by have := HD.out.1; have := HD.out.2; omega
        refine ⟨?_, ?_, by simp, by simp; omega⟩
        · intro c hc
          rcases List.mem_cons.1 hc with rfl | hc
          · exact hf.1
          · exact k2 c hc
        · rw [valD, hf.2, hDl, ← hm]; exact k1)
      have q : B [c1] ++ B D = B (c1 :: D) := by rw [B_ap]; rfl
      generalize c1 :: D = DD at *
      go_loopw [4, 7] (fun hv kv wr => ∃ (j : Nat) (H : List UInt8), kv = .int .i64 j ∧ hv = .string (B H) ∧ H.length = j ∧ j ≤ 8 ∧ Hid (valD 16 H = v % 16 ^ j ∧ (∀ c ∈ H, hexN.contains c = true)) ∧ Nx w0 wr) (fun _ kv _ => 8 - (intOf kv).toNat)
      case atStart => exact ⟨0, [], rfl, rfl, rfl, by omega, Lib.hid ⟨by simp [valD, Nat.mod_one], by simp⟩, HN.out⟩
      case round =>
        clear r1 r2 r3 t1 t2 r5 r7 hst HC HD hDl hj hmv HR HN
        obtain ⟨j, H, rfl, rfl, hHl, hj, HR, hn⟩ := hrel
        have HN := Lib.hid hn
        clear hn
        by_cases hj8 : j < 8
        · have hjI : decide ((j : Int) < 8) = true := decide_eq_true (by omega)
          obtain ⟨d, hd, hd16, x1⟩ := nib_at v j hv
          have HD := Lib.hid hd
          clear hd
          have r3 := wrap2 d hd16
          have t1 : (0 : Int) ≤ (d : Int) + 1 := by omega
          have t2 : (d : Int) ≤ (d : Int) + 1 := by omega
          have r5 : (d : Int) + 1 ≤ 16 := by omega
          have r7 : ({ data := #[48, 49, 50, 51, 52, 53, 54, 55, 56, 57, 65, 66, 67, 68, 69, 70] } : ByteArray).extract d (d + 1) = B [hexB.getD d 0] := hexB_cut d hd16
          have hst : ¬ 9223372036854775807 < 1 + H.length := by omega
          generalize hc2' : hexB.getD d 0 = c2 at r7
          have HC := Lib.hid hc2'
          clear hc2'
          go_wp2
          go_roundw
          case rel =>
            refine ⟨j + 1, c2 :: H, by go_num, ?_, by simp [hHl], by omega, ?_, HN.out⟩
            · rw [B_ap]; rfl
            · have hf := hex_facts d hd16
              rw [HC.out] at hf
              refine Lib.hid ⟨?_, ?_⟩
              · rw [valD, hf.2, hHl, HR.out.1]
                exact mod_step v j d HD.out
              · intro c hc
                rcases List.mem_cons.1 hc with rfl | hc
                · exact hf.1
                · exact HR.out.2 c hc
          case measure => simp [intOf]; omega
        · have hjI : decide ((j : Int) < 8) = false := decide_eq_false (by omega)
          have hj8' : j = 8 := by omega
          have q2 : B DD ++ { data := #[32, 48, 120] } ++ B H = B (DD ++ ([32, 48, 120] ++ H)) := by
            rw [show ({ data := #[32, 48, 120] } : ByteArray) = B [32, 48, 120] from rfl, B_ap, B_ap, List.append_assoc]
          have hst : ¬ 9223372036854775807 < DD.length + 3 := by have := HDV.out.2.2.2; omega
          have hst2 : ¬ 9223372036854775807 < DD.length + 3 + H.length := by have := HDV.out.2.2.2; omega
          have hT := src_num DD H v hv HDV.out.1 HDV.out.2.2.1 HDV.out.2.2.2 HDV.out.2.1 HR.out.2 (by omega) (by
            rw [HR.out.1, hj8']; exact Nat.mod_eq_of_lt (by omega))
          have hTl : (DD ++ ([32, 48, 120] ++ H)).length ≤ 1000 := by have := HDV.out.2.2.2; simp; omega
          generalize DD ++ ([32, 48, 120] ++ H) = T at *
          obtain ⟨v2, w2, hr, hn2, hB2, _⟩ := conv_str wr T (by omega)
          have H2 := Lib.hid (HN.out.trans hn2)
          have CE := Lib.hid (show Calls Tryd.prog 42 #[v2] w2 fun e w' => ∃ u, e = .returned (.tuple #[u, .nilIface]) ∧ Nx w2 w' ∧ Lins w' u [[⟨5, 1, 1, [], v, 0⟩, ⟨5, 1, ((DD.length + 2 : Nat) : Int), [], v, 0⟩]] from by
            refine (llines_any v2 T w2 (HE.out.nx H2.out) hB2 (by omega)).mono ?_
            rintro e w' ⟨u, ev, rfl, hn, ⟨ls, h, hL, rfl⟩ | ⟨a, b, c, h, _⟩⟩
            · rw [hT] at h; cases h; exact ⟨u, rfl, hn, hL⟩
            · rw [hT] at h; cases h)
          clear hn2 hB2 hT hTl hj8' HR HDV
          go_wp2_with fail
          refine CE.out.mono ?_
          rintro e w3 ⟨u, rfl, hn3, hL⟩
          have H3 := Lib.hid (H2.out.trans hn3)
          have HL := Lib.hid hL
          clear hn3 hL CE
          obtain ⟨A1, c1, rfl, _, _, _⟩ := HL.out.form
          obtain ⟨g, o, c', u, he, _, hcell, hT⟩ := line_at HL.out 0 _ rfl
          cases he
          obtain ⟨A3, c3, rfl, _, _, hA3⟩ := hT.form
          obtain ⟨g3, o3, rfl, hT3⟩ : ∃ g o, A3 = some ⟨g, o, none⟩ ∧ TokAt w3 g o [⟨5, 1, 1, [], v, 0⟩, ⟨5, 1, ((DD.length + 2 : Nat) : Int), [], v, 0⟩] := by
            rcases hA3 with ⟨_, h, _⟩ | h
            · cases h
            · exact h
          obtain ⟨a0, a1, a2, a3, a4, a5⟩ := hT3.head
          obtain ⟨b0, b1, b2, b3, b4, b5⟩ := hT3.at_ 1 _ rfl
          dsimp only at a0 a1 a2 a3 a4 a5 b0 b1 b2 b3 b4 b5
          rw [Nat.add_zero] at hcell
          clear hA3 hT hT3
          go_wp2
          go_ret
          exact ⟨rfl, H3.out⟩
    · have z : ((e : Int) == 0) = false := beq_eq_false_iff_ne.2 (by omega)
      go_wp2
      go_roundw
      case rel =>
        obtain ⟨k1, k2, k3⟩ := HR.out
        have hf := dig_facts d hd10
        rw [HC.out] at hf
        have hm : m = e * 10 + d := by have := HD.out.1; have := HD.out.2; omega
        have hk : e * 10 ^ (j + 1) + (d * 10 ^ j + valD 10 D) = v := by
          rw [← k1, hm, Nat.add_mul, Nat.pow_succ, Nat.mul_assoc, Nat.mul_comm 10 (10 ^ j)]; omega
        have hj9 : j + 1 < 10 := by
          rcases Nat.lt_or_ge (j + 1) 10 with h | h
          · exact h
          · obtain rfl : j = 9 := by omega
            have : 1 ≤ e := by omega
            have := Nat.mul_le_mul_right (10 ^ (9 + 1)) this
            have h10 : (10 : Nat) ^ (9 + 1) = 10000000000 := by decide
            omega
        refine ⟨j + 1, e, c1 :: D, by go_num, rfl, ?_, by simp [hDl], hj9, ?_, ?_, HN.out⟩
        · rw [B_ap]; rfl
        · omega
        · refine Lib.hid ⟨?_, ?_, Or.inr (by omega)⟩
          · rw [valD, hf.2, hDl]; exact hk
          · intro c hc
            rcases List.mem_cons.1 hc with rfl | hc
            · exact hf.1
            · exact k2 c hc
      case measure => simp [intOf]; omega

end Go.Proofs.YtbkgdepblaibkaaDoor
