/- Contracts of package typecaseref08: Row, Put, Get. -/
import Derived.Test.YtpaadeiopflfgaaDoorRefhe
import Derived.Test.YtpaadeiopflfgaaDoorRefhf
import Derived.Test.YtpaadeiopflfgaaDoorGetw
namespace Go.Proofs.YtpaadeiopflfgaaDoor
open Go.RowKit
set_option linter.unusedVariables false
set_option linter.unusedSimpArgs false

theorem code_facts (op : Int) (h : 1 ≤ op) (h' : op ≤ 48) : 0 ≤ codeA op ∧ codeA op ≤ 267386895 ∧ 0 ≤ codeB op ∧ codeB op ≤ 7 ∧ 0 ≤ codeC op ∧ codeC op ≤ 32 ∧ codeA op + codeB op * 4096 + codeC op * 33554432 = rowM op ∧
    ((codeD op = 1 ∧ rowK op = 127) ∨ (codeD op = 2 ∧ rowK op = 28799) ∨ (codeD op = 3 ∧ rowK op = 4261441663) ∨ (codeD op = 4 ∧ rowK op = 4294967295)) := by
  obtain ⟨n, rfl⟩ := Int.eq_ofNat_of_zero_le (show 0 ≤ op by omega)
  have hh : ∀ n : Fin 49, 1 ≤ n.val → (0 ≤ codeA n.val ∧ codeA n.val ≤ 267386895 ∧ 0 ≤ codeB n.val ∧ codeB n.val ≤ 7 ∧ 0 ≤ codeC n.val ∧ codeC n.val ≤ 32 ∧ codeA n.val + codeB n.val * 4096 + codeC n.val * 33554432 = rowM n.val ∧
    ((codeD n.val = 1 ∧ rowK n.val = 127) ∨ (codeD n.val = 2 ∧ rowK n.val = 28799) ∨ (codeD n.val = 3 ∧ rowK n.val = 4261441663) ∨ (codeD n.val = 4 ∧ rowK n.val = 4294967295))) := by decide
  exact hh ⟨n, by omega⟩ (by show 1 ≤ n; omega)

set_option maxHeartbeats 1000000 in
theorem rrow_any (op : Int) (w : World) (h : 1 ≤ op) (h' : op ≤ 48) : Calls Tryd.prog 15 #[.int .i64 op] w fun e w' => e = .returned (.tuple #[.int .u32 (rowM op), .int .u32 (rowK op)]) ∧ Nx w w' := by
  obtain ⟨a1, a2, b1, b2, c1, c2, hs, hd⟩ := code_facts op h h'
  have HC := Lib.hid (codes_any op w h h')
  have HV : Hid (codeV op = .agg #[.int .u32 (codeA op), .int .u32 (codeB op), .int .u32 (codeC op), .int .u32 (codeD op)]) := rfl
  have HS := Lib.hid hs
  clear hs
  generalize codeA op = ca at *
  generalize codeB op = cb at *
  generalize codeC op = cc at *
  generalize codeD op = cd at *
  rcases hd with ⟨rfl, hk⟩ | ⟨rfl, hk⟩ | ⟨rfl, hk⟩ | ⟨rfl, hk⟩
  all_goals
    have HK := Lib.hid hk
    clear hk
    go_enter Tryd.func15, Tryd.ntmps15
    go_wp2_with fail
    refine HC.out.mono ?_
    rintro e w1 ⟨rfl, hn1⟩
    have HN := Lib.hid hn1
    clear hn1
    rw [HV.out]
    go_wp2
    go_region
  all_goals
    go_wp2
    go_ret2
    refine ⟨ret2_u32 HS.out HK.out.symm, ?_⟩
    repeat (with_reducible first | refine Nx.drew ?_ | refine Nx.alloc ?_ _)
    exact HN.out

theorem unit_int (i : Int) (w : World) (h : 0 ≤ i) (h' : i ≤ 31) : Calls Tryd.prog 21 #[.int .i64 i] w fun e w' => e = .returned (.int .u32 (2 ^ i.toNat)) ∧ w = w' := by
  obtain ⟨n, rfl⟩ := Int.eq_ofNat_of_zero_le h
  rw [Int.toNat_natCast]
  exact unit_any n (by omega) w

theorem unit_7 (w : World) : Calls Tryd.prog 21 #[.int .i64 7] w fun e w' => e = .returned (.int .u32 128) ∧ w = w' := unit_int 7 w (by decide) (by decide)

theorem unit_15 (w : World) : Calls Tryd.prog 21 #[.int .i64 15] w fun e w' => e = .returned (.int .u32 32768) ∧ w = w' := unit_int 15 w (by decide) (by decide)

theorem unit_20 (w : World) : Calls Tryd.prog 21 #[.int .i64 20] w fun e w' => e = .returned (.int .u32 1048576) ∧ w = w' := unit_int 20 w (by decide) (by decide)

set_option maxHeartbeats 1000000 in
theorem rput_no (op rd rs1 rs2 imm : Int) (w : World) (hv : -2147483648 ≤ imm) (hv' : imm ≤ 2147483647) (h : mayB op rd rs1 rs2 imm = false) :
    Calls Tryd.prog 9 #[.agg #[.int .i64 op, .int .i64 rd, .int .i64 rs1, .int .i64 rs2, .int .i32 imm]] w fun e w' => e = .returned (.tuple #[.int .u32 0, .bool false]) ∧ Nx w w' := by
  go_enter Tryd.func9, Tryd.ntmps9
  go_wp2_with (go_at_call 10; refine (rmay_any _ _ _ _ _ _ hv hv').mono ?_; rintro e w1 ⟨rfl, hn1⟩)
  go_ret2
  exact ⟨rfl, ((Nx.refl _).alloc _).trans hn1⟩

theorem rowM_bd (op : Int) (h1 : 1 ≤ op) (h2 : op ≤ 48) : 0 ≤ rowM op ∧ rowM op ≤ 1073762355 := by
  obtain ⟨n, rfl⟩ := Int.eq_ofNat_of_zero_le (show 0 ≤ op by omega)
  have h : ∀ n : Fin 49, 0 ≤ rowM n.val ∧ rowM n.val ≤ 1073762355 := by decide
  exact h ⟨n, by omega⟩

theorem pl_facts (f : Int) (h1 : 1 ≤ f) (h2 : f ≤ 7) : (plL f).length ≤ 40 ∧ ∀ i ∈ plL f, i ≤ 31 := by
  rcases (by omega : f = 1 ∨ f = 2 ∨ f = 3 ∨ f = 4 ∨ f = 5 ∨ f = 6 ∨ f = 7) with rfl | rfl | rfl | rfl | rfl | rfl | rfl <;> exact ⟨by decide, by decide⟩

theorem sum_all (f x : Int) (h1 : 1 ≤ f) (h2 : f ≤ 7) : sumTo x (plL f) (plL f).length = putImm f x := by
  rcases (by omega : f = 1 ∨ f = 2 ∨ f = 3 ∨ f = 4 ∨ f = 5 ∨ f = 6 ∨ f = 7) with rfl | rfl | rfl | rfl | rfl | rfl | rfl
  · exact sum_1 x
  · exact sum_2 x
  · exact sum_3 x
  · exact sum_4 x
  · exact sum_5 x
  · exact sum_6 x
  · exact sum_7 x

theorem putImm_mod (f v : Int) : putImm f (v % 4294967296) = putImm f v := by
  unfold putImm
  rw [fld_mod v 12 20 (by decide), fld_mod v 20 1 (by decide), fld_mod v 12 8 (by decide), fld_mod v 11 1 (by decide), fld_mod v 1 10 (by decide), fld_mod v 12 1 (by decide), fld_mod v 5 6 (by decide), fld_mod v 1 4 (by decide), fld_mod v 0 12 (by decide), fld_mod v 5 7 (by decide), fld_mod v 0 5 (by decide)]

theorem sum_step (B x s b : Int) (n : Nat) : (((B + s) % 4294967296) + b * 2 ^ n % 4294967296) % 4294967296 = (B + (s + b * 2 ^ n)) % 4294967296 := by omega

end Go.Proofs.YtpaadeiopflfgaaDoor
