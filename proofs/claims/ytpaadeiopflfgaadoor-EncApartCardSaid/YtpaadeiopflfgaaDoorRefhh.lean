/- Contracts of package typecaseref08: Put, Get. -/
import Derived.Test.YtpaadeiopflfgaaDoorRefhg
namespace Go.Proofs.YtpaadeiopflfgaaDoor
open Go.RowKit
set_option linter.unusedVariables false
set_option linter.unusedSimpArgs false

set_option maxHeartbeats 4000000 in
theorem rput_yes (op rd rs1 rs2 imm : Int) (w : World) (hv : -2147483648 ≤ imm) (hv' : imm ≤ 2147483647) (h : mayB op rd rs1 rs2 imm = true) :
    Calls Tryd.prog 9 #[.agg #[.int .i64 op, .int .i64 rd, .int .i64 rs1, .int .i64 rs2, .int .i32 imm]] w fun e w' => e = .returned (.tuple #[.int .u32 (enc5 ⟨op, rd, rs1, rs2, imm⟩), .bool true]) ∧ Nx w w' := by
  obtain ⟨o1, o2, d1, d2, s1, s2, t1, t2, f1, f2, hnum⟩ := may_facts _ _ _ _ _ h
  have HBD := Lib.hid (enc5_bd op rd rs1 rs2 imm h)
  have HE : Hid (enc5 ⟨op, rd, rs1, rs2, imm⟩ = rowM op + rd * 128 + rs1 * 32768 + rs2 * 1048576 + putImm (formN op) imm) := rfl
  obtain ⟨m1, m2⟩ := rowM_bd op o1 o2
  clear hnum
  go_enter Tryd.func9, Tryd.ntmps9
  go_wp2_with fail
  refine (rmay_any _ _ _ _ _ _ hv hv').mono ?_
  rintro e w1 ⟨rfl, hn1⟩
  obtain ⟨c0, c1, c2, c3, c4, hz⟩ := five_in hn1
  go_wp2_with fail
  refine (rrow_any op _ o1 o2).mono ?_
  rintro e w2 ⟨rfl, hn2⟩
  obtain ⟨e0, e1, e2, e3, e4, hz2⟩ := five_in (hn1.trans hn2)
  have HN := Lib.hid (((Nx.refl w).alloc _).trans (hn1.trans hn2))
  clear c0 c1 c2 c3 c4 hz hn1 hn2
  have q1 : IntKind.u32.wrap rd = rd := by rw [wrap_u32]; omega
  have q2 : IntKind.u32.wrap rs1 = rs1 := by rw [wrap_u32]; omega
  have q3 : IntKind.u32.wrap rs2 = rs2 := by rw [wrap_u32]; omega
  have q4 : IntKind.u32.wrap (rd * 128) = rd * 128 := by rw [wrap_u32]; omega
  have q5 : IntKind.u32.wrap (rs1 * 32768) = rs1 * 32768 := by rw [wrap_u32]; omega
  have q6 : IntKind.u32.wrap (rs2 * 1048576) = rs2 * 1048576 := by rw [wrap_u32]; omega
  have q7 : IntKind.u32.wrap (rowM op + rd * 128) = rowM op + rd * 128 := by rw [wrap_u32]; omega
  have q8 : IntKind.u32.wrap (rowM op + rd * 128 + rs1 * 32768) = rowM op + rd * 128 + rs1 * 32768 := by rw [wrap_u32]; omega
  have q9 : IntKind.u32.wrap (rowM op + rd * 128 + rs1 * 32768 + rs2 * 1048576) = rowM op + rd * 128 + rs1 * 32768 + rs2 * 1048576 := by rw [wrap_u32]; omega
  go_wp2
  (refine wp_region_nx 19 (by kernel_rfl) (by kernel_rfl) ?_; simp only [List.take_succ_cons, List.take_zero, List.drop_succ_cons, List.drop_zero]; (repeat (refine wpQuiet_step (fun K hK => ?_); go_simp; first | (refine hK _ ?_; clear hK K) | (apply Exists.intro; refine ⟨fun w' hw' => ?_, hK _ ?_⟩; (first | rfl | (obtain ⟨hc, hf⟩ := nx_cells hw'; go_simp; rfl) | (go_at_call 21; exact (unit_int _ _ (by omega) (by omega)).mono fun _ _ h => ⟨h.1, hw'.trans (Nx.of_eq h.2)⟩)); clear hK K))); refine wpQuiet_nil ?_; intro w3 hn3)
  clear q1 q2 q3 q4 q5 q6 q7 q8 q9
  have g0 := hn3.cell e0
  have g4 := hn3.cell e4
  have HN3 := Lib.hid (HN.out.trans hn3)
  have hz3 : w.heap.size < w3.heap.size := Nat.lt_of_lt_of_le hz2 hn3.size
  clear e0 e1 e2 e3 e4 hn3 HN hz2
  generalize hB : rowM op + rd * 128 + rs1 * 32768 + rs2 * 1048576 = B at *
  have HB := Lib.hid hB
  clear hB
  have hB1 : 0 ≤ B := by have := HB.out; omega
  have hB2 : B < 4294967296 := by have := HB.out; omega
  go_wp2_with fail
  refine (form_any _ _).mono ?_
  rintro e w4 ⟨rfl, hn4⟩
  have k4 := hn4.cell g4
  have HN4 := Lib.hid (HN3.out.trans hn4)
  have hz4 : w.heap.size < w4.heap.size := Nat.lt_of_lt_of_le hz3 hn4.size
  clear g0 g4 HN3 hn4 hz3
  by_cases h8 : formN op ≤ 7
  · obtain ⟨l1, l2⟩ := pl_facts (formN op) f1 h8
    have HSA := Lib.hid (sum_all (formN op) (imm % 4294967296) f1 h8)
    have HL2 := Lib.hid l2
    clear l2
    go_wp2_with fail
    refine (places_some (formN op) _ f1 h8).mono ?_
    rintro e w5 ⟨g, n, c, hlen, rfl, hi, hn5⟩
    have m4 := hn5.cell k4
    have HN5 := Lib.hid (HN4.out.trans hn5)
    have hz5 : w.heap.size < w5.heap.size := Nat.lt_of_lt_of_le hz4 hn5.size
    have HI := Lib.hid hi
    have HFF := Lib.hid (show putImm (formN op) (imm % 4294967296) = putImm (formN op) imm from putImm_mod _ _)
    generalize plL (formN op) = l at *
    subst hlen
    clear hi hn5 k4 HN4 hz4
    have x1 : 0 ≤ imm % 4294967296 := by omega
    have x2 : imm % 4294967296 < 4294967296 := by omega
    generalize hX : imm % 4294967296 = X at *
    have HX := Lib.hid hX
    clear hX
    go_wp2
    go_loopw [4, 7] (fun v i wr => ∃ k : Nat, k ≤ l.length ∧ i = .int .i64 k ∧ v = .int .u32 ((B + sumTo X l k) % 4294967296) ∧ Nx w5 wr) (fun _ i _ => l.length - (intOf i).toNat)
    case atStart => exact ⟨0, by omega, rfl, congrArg _ (by show B = (B + 0) % 4294967296; omega), Nx.refl _⟩
    case round =>
      obtain ⟨k, hk, rfl, rfl, hnx⟩ := hrel
      have r4 := hnx.cell m4
      have hzr : w.heap.size < wr.heap.size := Nat.lt_of_lt_of_le hz5 hnx.size
      by_cases hlt : k < l.length
      · have hg : l[k]? = some l[k] := List.getElem?_eq_getElem hlt
        have hgd : l.getD k 0 = l[k] := by rw [List.getD_eq_getElem?_getD, hg]; rfl
        have hc := (HI.out.keep hnx) k _ hg
        have hgz : g < wr.heap.size := block_lt hc
        have hi31 := HL2.out _ (List.getElem_mem hlt)
        have HS := Lib.hid (show sumTo X l (k + 1) = sumTo X l k + (if 0 ≤ l[k] then fld X (l.length - 1 - k) 1 * 2 ^ l[k].toNat else 0) by rw [← hgd]; rfl)
        clear hg hgd
        generalize l[k] = i at *
        have s1 : 0 ≤ (B + sumTo X l k) % 4294967296 := by omega
        have s2 : (B + sumTo X l k) % 4294967296 < 4294967296 := by omega
        have HW : Hid ((B + sumTo X l k) % 4294967296 = (B + sumTo X l k) % 4294967296) := rfl
        generalize hV : (B + sumTo X l k) % 4294967296 = V at s1 s2 ⊢
        have HV := Lib.hid hV
        clear hV HW
        by_cases h0 : 0 ≤ i
        · have q1 : IntKind.u32.wrap imm = X := by rw [wrap_u32]; exact HX.out
          have q2 : IntKind.i64.wrap ((l.length : Int) - 1) = (l.length : Int) - 1 := IntWalk.i64_in _ (by omega)
          have q3 : IntKind.i64.wrap ((l.length : Int) - 1 - k) = (l.length : Int) - 1 - k := IntWalk.i64_in _ (by omega)
          have q4 : (0 : Int) ≤ k := by omega
          have q5 : (k : Int) < l.length := by omega
          go_wp2
          (refine wp_region_nx 17 (by kernel_rfl) (by kernel_rfl) ?_; simp only [List.take_succ_cons, List.take_zero, List.drop_succ_cons, List.drop_zero]; (repeat (refine wpQuiet_step (fun K hK => ?_); go_simp; first | (refine hK _ ?_; clear hK K) | (apply Exists.intro; refine ⟨fun w' hw' => ?_, hK _ ?_⟩; (first | rfl | (obtain ⟨hc, hf⟩ := nx_cells hw'; go_simp; rfl) | (go_at_call 21; exact (unit_int _ _ (by omega) (by omega)).mono fun _ _ h => ⟨h.1, hw'.trans (Nx.of_eq h.2)⟩) | (go_at_call 24; exact (rbit_any _ _ _ x1 x2).mono fun _ _ h => ⟨h.1, hw'.trans (Nx.of_eq h.2)⟩)); clear hK K))); refine wpQuiet_nil ?_; intro w6 hn6)
          clear q1 q2 q3
          have HT := Lib.hid (show ((l.length : Int) - 1 - k).toNat = l.length - 1 - k by omega)
          go_wp2
          go_roundw
          case rel => exact ⟨k + 1, by omega, by go_num, congrArg _ (by rw [HS.out, if_pos h0, ← HV.out]; simp only [wrap_u32]; (try rw [HT.out]); exact sum_step B X _ _ _), hnx.trans hn6⟩
          case measure => simp [intOf]; omega
        · have h0' : decide (0 ≤ i) = false := by simpa using h0
          go_wp2
          go_roundw
          case rel => exact ⟨k + 1, by omega, by go_num, congrArg _ (by rw [← HV.out, HS.out, if_neg h0, Int.add_zero]), hnx⟩
          case measure => simp [intOf]; omega
      · have e : k = l.length := by omega
        have HK := Lib.hid e
        have HV : Hid ((B + sumTo X l k) % 4294967296 = enc5 ⟨op, rd, rs1, rs2, imm⟩) := by
          show _ = _
          have a1 := HBD.out
          have a2 := HE.out
          rw [e, HSA.out, HFF.out]
          rw [a2] at a1 ⊢
          omega
        clear e
        generalize (B + sumTo X l k) % 4294967296 = V at *
        go_wp2
        go_ret2
        exact ⟨congrArg (fun v => Ending.returned (.tuple #[.int .u32 v, .bool true])) HV.out, HN5.out.trans hnx⟩
  · have HE2 : Hid (B = enc5 ⟨op, rd, rs1, rs2, imm⟩) := by
      show _ = _
      have a2 := HE.out
      have a3 : putImm (formN op) imm = 0 := by
        rcases (by omega : formN op = 8 ∨ formN op = 9) with q | q <;> rw [q] <;> rfl
      rw [a2, a3, Int.add_zero]
    go_wp2_with fail
    refine (places_none (formN op) _ (by omega)).mono ?_
    rintro e w5 ⟨rfl, rfl⟩
    go_wp2
    go_loopw [4, 7] (fun v i wr => i = .int .i64 0 ∧ v = .int .u32 B ∧ wr = w4) (fun _ i _ => 0)
    case atStart => exact ⟨rfl, rfl, rfl⟩
    case round =>
      obtain ⟨rfl, rfl, rfl⟩ := hrel
      go_wp2
      go_ret2
      exact ⟨congrArg (fun v => Ending.returned (.tuple #[.int .u32 v, .bool true])) HE2.out, HN4.out⟩

/-- What the reference gets: the machine's instruction, if it is put as it was. -/
theorem get_plain (x : Int) (hx : 0 ≤ x) (hx' : x < 4294967296) (h0 : (decP x).op ≠ 0) : getB x = (enc5 (decP x) == x) := by
  unfold getB
  by_cases h38 : (decP x).op = 38
  · have h1 := dec_parts x h0
    rw [h38] at h1
    have h2 : decP x = ⟨38, 0, 0, 0, 0⟩ := h1
    have h3 : enc5 (decP x) = 267386895 := by rw [h2]; rfl
    rw [h3, h38]
    show (true && (false || (x == 267386895))) = _
    rw [Bool.true_and, Bool.false_or]
    exact Bool.beq_comm
  · have h1 := enc_dec x hx hx' h0 h38
    rw [h1]; simp [h0, h38]

set_option maxHeartbeats 1000000 in
theorem rget_any (x : Int) (w : World) (hx : 0 ≤ x) (hx' : x < 4294967296) :
    Calls Tryd.prog 13 #[.int .u32 x] w fun e w' => e = .returned (.tuple #[insV (getI x), .bool (getB x)]) ∧ Nx w w' := by
  obtain ⟨b1, b2⟩ := dec_imm_bd x
  have HDC := Lib.hid (fun w => rdecode_any x w hx hx')
  cases h0 : ((decP x).op == 0)
  · have hm := may_decJ x h0
    have h0' : (decP x).op ≠ 0 := by simpa using h0
    have eJ : decJ x = decP x := by unfold decJ; rw [if_neg h0']
    have eG : getB x = (enc5 (decJ x) == x) := by rw [eJ]; exact get_plain x hx hx' h0'
    have eI : getI x = if getB x = true then decJ x else none5 := by rw [eJ]; rfl
    clear eJ h0'
    generalize decJ x = i at *
    obtain ⟨op, rd, rs1, rs2, imm⟩ := i
    simp only at b1 b2 hm
    have HG := Lib.hid eG
    have HI := Lib.hid eI
    clear eG eI
    cases h5 : (enc5 ⟨op, rd, rs1, rs2, imm⟩ == x)
    all_goals
      have h6 := HG.out.trans h5
      have e1 := HI.out
      rw [h6] at e1
      simp only [reduceCtorEq, if_true, if_false] at e1
      have HE := Lib.hid e1
      have H6 := Lib.hid h6
      have h7 : (enc5 ⟨op, rd, rs1, rs2, imm⟩ != x) = !(enc5 ⟨op, rd, rs1, rs2, imm⟩ == x) := rfl
      rw [h5] at h7
      clear e1 h6 HG HI
      simp only [Bool.not_true, Bool.not_false] at h7
      go_enter Tryd.func13, Tryd.ntmps13
      go_wp2_with fail
      refine (HDC.out _).mono ?_
      rintro e w1 ⟨rfl, hn1⟩
      go_wp2_with fail
      refine (rput_yes _ _ _ _ _ _ b1 b2 hm).mono ?_
      rintro e w2 ⟨rfl, hn2⟩
      obtain ⟨c0, c1, c2, c3, c4, z0, z1, z2, z3, z4, hz⟩ := five_cells (hn1.trans (((Nx.refl w1).alloc _).trans hn2))
      obtain ⟨d0, d1, d2, d3, d4, hzd⟩ := five_in hn2
      have HN := Lib.hid (((Nx.refl w).alloc _).trans (hn1.trans (((Nx.refl w1).alloc _).trans hn2)))
      clear hn1 hn2
      go_wp2
    · refine bodyPost_ret (v := .tuple #[insV none5, .bool false]) (by simp [results, Tryd.results13, go_sem, insV, none5, c0, c1, c2, c3, c4]) rfl ⟨by rw [HE.out, H6.out], ?_⟩
      repeat (with_reducible first | refine Nx.alloc ?_ _ | refine Nx.setCell ?_ (Nat.le_refl _) _)
      exact HN.out
    · refine bodyPost_ret (v := .tuple #[insV ⟨op, rd, rs1, rs2, imm⟩, .bool true]) (by simp [results, Tryd.results13, go_sem, insV, none5, c0, c1, c2, c3, c4]) rfl ⟨by rw [HE.out, H6.out], ?_⟩
      repeat (with_reducible first | refine Nx.alloc ?_ _ | refine Nx.setCell ?_ (Nat.le_refl _) _)
      exact HN.out
  · have h0' : (decP x).op = 0 := by simpa using h0
    have eJ : decJ x = none5 := by unfold decJ; rw [if_pos h0']
    have eB : getB x = false := by unfold getB; rw [h0]; rfl
    have eI : getI x = none5 := by unfold getI; rw [eB]; rfl
    have HE := Lib.hid eI
    have H6 := Lib.hid eB
    rw [eJ] at HDC
    simp only [none5] at HDC
    clear eJ eB eI h0'
    go_enter Tryd.func13, Tryd.ntmps13
    go_wp2_with fail
    refine (HDC.out _).mono ?_
    rintro e w1 ⟨rfl, hn1⟩
    obtain ⟨c0, c1, c2, c3, c4, z0, z1, z2, z3, z4, hz⟩ := five_cells hn1
    have HN := Lib.hid (((Nx.refl w).alloc _).trans hn1)
    clear hn1
    go_wp2
    refine bodyPost_ret (v := .tuple #[insV none5, .bool false]) (by simp [results, Tryd.results13, go_sem, insV, none5, c0, c1, c2, c3, c4, hz]) rfl ⟨by rw [HE.out, H6.out], ?_⟩
    repeat (with_reducible first | refine Nx.alloc ?_ _ | refine Nx.setCell ?_ (Nat.le_refl _) _)
    exact HN.out

end Go.Proofs.YtpaadeiopflfgaaDoor
