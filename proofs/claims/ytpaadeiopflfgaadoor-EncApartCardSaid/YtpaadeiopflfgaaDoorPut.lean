/- Contracts of package enc: an instruction's word. -/
import Derived.Test.YtpaadeiopflfgaaDoorEncr
import Derived.Test.YtpaadeiopflfgaaDoorPutq
namespace Go.Proofs.YtpaadeiopflfgaaDoor
open Go.RowKit
set_option linter.unusedVariables false

theorem may_facts (op rd rs1 rs2 imm : Int) (h : mayB op rd rs1 rs2 imm = true) : 1 ≤ op ∧ op ≤ 48 ∧ 0 ≤ rd ∧ rd ≤ 31 ∧ 0 ≤ rs1 ∧ rs1 ≤ 31 ∧ 0 ≤ rs2 ∧ rs2 ≤ 31 ∧ 1 ≤ formN op ∧ formN op ≤ 9 ∧ numB (formN op) imm = true := by
  simp only [mayB, Bool.and_eq_true] at h
  obtain ⟨h1, h2, h3, h4, h5⟩ := h
  have hf : ¬ formN op = 0 := by simpa using h1
  have hr : ∀ n b, regB n b = true → 0 ≤ n ∧ n ≤ 31 := by
    intro n b hb
    cases b <;> simp [regB] at hb <;> omega
  have hop : ¬ (op < 1 ∨ 48 < op) := fun c => hf (formN_far op c)
  have r1 := hr _ _ h2
  have r2 := hr _ _ h3
  have r3 := hr _ _ h4
  have r4 := formN_range op
  refine ⟨by omega, by omega, r1.1, r1.2, r2.1, r2.2, r3.1, r3.2, by omega, by omega, h5⟩

set_option maxHeartbeats 1000000 in
theorem put_no (op rd rs1 rs2 imm : Int) (w : World) (hv : -2147483648 ≤ imm) (hv' : imm ≤ 2147483647) (h : mayB op rd rs1 rs2 imm = false) :
    Calls Tryd.prog 8 #[.agg #[.int .i64 op, .int .i64 rd, .int .i64 rs1, .int .i64 rs2, .int .i32 imm]] w fun e w' => e = .returned (.tuple #[.int .u32 0, .bool false]) ∧ Nx w w' := by
  go_enter Tryd.func8, Tryd.ntmps8
  go_wp2_with (go_at_call 16; refine (may_any _ _ _ _ _ _ hv hv').mono ?_; rintro e w1 ⟨rfl, hn1⟩)
  go_ret2
  exact ⟨rfl, ((Nx.refl _).alloc _).trans hn1⟩

theorem places_at {w : World} (h : Places w) (fn k : Nat) (hf : fn ≤ 9) (hk : k < 4) :
    w.cell? ⟨0, fn * 12 + k * 3, none⟩ = some (.int .i16 (pFrom fn k)) ∧ w.cell? ⟨0, fn * 12 + k * 3 + 1, none⟩ = some (.int .i16 (pAt fn k)) ∧ w.cell? ⟨0, fn * 12 + k * 3 + 2, none⟩ = some (.int .i16 (pBits fn k)) := by
  have hl : placesL.length = 120 := rfl
  have g : ∀ j, j < 120 → placesL[j]? = some (placesL.getD j 0) := by
    intro j hj
    rw [List.getD_eq_getElem?_getD, List.getElem?_eq_getElem (by omega)]; rfl
  have e : (fn * 4 + k) * 3 = fn * 12 + k * 3 := by omega
  unfold pFrom pAt pBits
  simp only [Int.toNat_natCast]
  rw [e]
  exact ⟨h _ _ (g _ (by omega)), h _ _ (g _ (by omega)), h _ _ (g _ (by omega))⟩

theorem putW_succ (f v m : Int) (k : Nat) : putW f v m (k + 1) = bits BinOp.or IntKind.u32 (putW f v m k) (fld (v % 4294967296) (pFrom f k).toNat (pBits f k).toNat * 2 ^ (pAt f k).toNat % 4294967296) := rfl

theorem put_plain (op rd rs1 rs2 imm : Int) (h : mayB op rd rs1 rs2 imm = true) : putW (formN op) imm (putM op rd rs1 rs2) 4 = enc5 ⟨op, rd, rs1, rs2, imm⟩ := by
  obtain ⟨o1, o2, d1, d2, s1, s2, t1, t2, f1, f2, hnum⟩ := may_facts _ _ _ _ _ h
  simp only [mayB, Bool.and_eq_true] at h
  obtain ⟨h1, h2, h3, h4, h5⟩ := h
  rcases (by omega : formN op = 1 ∨ formN op = 2 ∨ formN op = 3 ∨ formN op = 4 ∨ formN op = 5 ∨ formN op = 6 ∨ formN op = 7 ∨ formN op = 8 ∨ formN op = 9) with hf | hf | hf | hf | hf | hf | hf | hf | hf
  · rw [hf] at h2 h3 h4; exact put_plain1 op rd rs1 rs2 imm o1 o2 hf h2 h3 h4
  · rw [hf] at h2 h3 h4; exact put_plain2 op rd rs1 rs2 imm o1 o2 hf h2 h3 h4
  · rw [hf] at h2 h3 h4; exact put_plain3 op rd rs1 rs2 imm o1 o2 hf h2 h3 h4
  · rw [hf] at h2 h3 h4; exact put_plain4 op rd rs1 rs2 imm o1 o2 hf h2 h3 h4
  · rw [hf] at h2 h3 h4; exact put_plain5 op rd rs1 rs2 imm o1 o2 hf h2 h3 h4
  · rw [hf] at h2 h3 h4; exact put_plain6 op rd rs1 rs2 imm o1 o2 hf h2 h3 h4
  · rw [hf] at h2 h3 h4; exact put_plain7 op rd rs1 rs2 imm o1 o2 hf h2 h3 h4
  · rw [hf] at h2 h3 h4; exact put_plain8 op rd rs1 rs2 imm o1 o2 hf h2 h3 h4
  · rw [hf] at h2 h3 h4; exact put_plain9 op rd rs1 rs2 imm o1 o2 hf h2 h3 h4

set_option maxHeartbeats 4000000 in
theorem put_yes (op rd rs1 rs2 imm : Int) (w : World) (hv : -2147483648 ≤ imm) (hv' : imm ≤ 2147483647) (h : mayB op rd rs1 rs2 imm = true) (hP : Places w) :
    Calls Tryd.prog 8 #[.agg #[.int .i64 op, .int .i64 rd, .int .i64 rs1, .int .i64 rs2, .int .i32 imm]] w fun e w' => e = .returned (.tuple #[.int .u32 (enc5 ⟨op, rd, rs1, rs2, imm⟩), .bool true]) ∧ Nx w w' := by
  obtain ⟨o1, o2, d1, d2, s1, s2, t1, t2, f1, f2, hnum⟩ := may_facts _ _ _ _ _ h
  have HP := Lib.hid hP
  have HPL := Lib.hid (put_plain op rd rs1 rs2 imm h)
  clear hP hnum
  go_enter Tryd.func8, Tryd.ntmps8
  go_wp2_with fail
  refine (may_any _ _ _ _ _ _ hv hv').mono ?_
  rintro e w1 ⟨rfl, hn1⟩
  go_wp2_with fail
  refine (rows_any _).mono ?_
  rintro e w2 ⟨rfl, hr2, hn2⟩
  have HR2 := Lib.hid hr2
  clear hr2
  obtain ⟨c0, c1, c2, c3, c4, hz⟩ := five_in (hn1.trans hn2)
  go_wp2_with fail
  refine (find_put op _ _ _ c0 HR2.out).mono ?_
  rintro e w3 hfound
  rcases hfound with ⟨k, hk, hp, _, rfl, hn3⟩ | ⟨hno, rfl, hn3⟩
  · have hk1 : (k : Int) + 1 = op := by simpa using hp
    rw [hk1]
    have hn4 := hn1.trans (hn2.trans hn3)
    obtain ⟨e0, e1, e2, e3, e4, hz4⟩ := five_in hn4
    have HN4 := Lib.hid (((Nx.refl w).alloc _).trans hn4)
    clear hk1 hp hk c0 c1 c2 c3 c4 hz HR2 hn1 hn2 hn3 hn4
    go_wp2_with (go_at_call 19; refine (formOf_any _ _).mono ?_; rintro e w' ⟨rfl, rfl⟩)
    obtain ⟨fn, hfn⟩ := Int.eq_ofNat_of_zero_le (show 0 ≤ formN op by omega)
    have HFN := Lib.hid hfn
    rw [hfn] at f1 f2
    rw [hfn]
    clear hfn
    have hfn1 : 1 ≤ fn := by omega
    have hfn2 : fn ≤ 9 := by omega
    clear f1 f2
    go_loopw [6, 8, 9, 41] (fun v _ _ i wr => ∃ k : Nat, k ≤ 4 ∧ i = .int .i64 k ∧ v = .int .u32 (putW fn imm (putM op rd rs1 rs2) k) ∧ Nx w3 wr) (fun _ _ _ i _ => 4 - (intOf i).toNat)
    case atStart => exact ⟨0, by omega, rfl, rfl, (Nx.refl _).alloc _⟩
    case round =>
      obtain ⟨k, hk, rfl, rfl, hnx⟩ := hrel
      have x4 := hnx.cell e4
      have hwz : w.heap.size < wr.heap.size := Nat.lt_of_lt_of_le hz4 hnx.size
      have hwz1 : w.heap.size < wr.heap.size + 1 := by omega
      have hwz2 : w.heap.size ≤ wr.heap.size := by omega
      by_cases hlt : k < 4
      · obtain ⟨a0, a1, a2⟩ := places_at (HP.out.keep (HN4.out.trans hnx)) fn k hfn2 hlt
        obtain ⟨b1, b2, b3, b4, b5, b6⟩ := places_ok fn k (by omega) (by omega) hlt
        have HW := Lib.hid (putW_succ fn imm (putM op rd rs1 rs2) k)
        generalize pFrom fn k = pf at *
        generalize pAt fn k = pa at *
        generalize pBits fn k = pb at *
        have q1 := wrap_u32 imm
        have q2 : IntKind.i64.wrap pf = pf := IntWalk.i64_in _ (by omega)
        have q3 : IntKind.i64.wrap pb = pb := IntWalk.i64_in _ (by omega)
        go_wp2
        (refine wp_region_nx 15 (by kernel_rfl) (by kernel_rfl) ?_; simp only [List.take_succ_cons, List.take_zero, List.drop_succ_cons, List.drop_zero]; (repeat (refine wpQuiet_step (fun K hK => ?_); go_simp; first | (refine hK _ ?_; clear hK K) | (apply Exists.intro; refine ⟨fun w' hw' => ?_, hK _ ?_⟩; (first | rfl | (obtain ⟨hc, hf⟩ := nx_cells hw'; go_simp; rfl) | (go_at_call 20; exact (field_in _ _ _ _ (by omega) (by omega) (by omega) (by omega) (by omega) (by omega)).mono fun _ _ h => ⟨h.1, hw'.trans (Nx.of_eq h.2)⟩)); clear hK K))); refine wpQuiet_nil ?_; intro w5 hn5)
        clear q1 q2 q3
        go_wp2
        go_roundw
        case rel => exact ⟨k + 1, by omega, by go_num, congrArg _ (by rw [wrap_u32]; exact HW.out.symm), (hnx.alloc _).trans hn5⟩
        case measure => simp [intOf]; omega
      · have hk4 : k = 4 := by omega
        have HW : Hid (putW fn imm (putM op rd rs1 rs2) k = enc5 ⟨op, rd, rs1, rs2, imm⟩) := by
          show _ = _
          rw [hk4, ← HFN.out]
          exact HPL.out
        clear hk4
        go_wp2
        go_ret2
        exact ⟨congrArg (fun v => Ending.returned (.tuple #[.int .u32 v, .bool true])) HW.out, HN4.out.trans hnx⟩
  · have := hno (op - 1).toNat (by omega)
    exact absurd this (by simp; omega)

end Go.Proofs.YtpaadeiopflfgaaDoor
