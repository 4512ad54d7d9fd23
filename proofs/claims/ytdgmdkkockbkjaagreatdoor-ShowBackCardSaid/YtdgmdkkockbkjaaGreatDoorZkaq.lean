/- Parts of the proof, one behind the other. -/
import Derived.Test.YtdgmdkkockbkjaaGreatDoorZkap
/- Contract of typecaseref17.hangs. -/
namespace Go.Proofs.YtdgmdkkockbkjaaGreatDoor
open Go.RowKit
set_option linter.unusedVariables false
set_option linter.unusedSimpArgs false

set_option maxHeartbeats 16000000 in
set_option maxRecDepth 100000 in
theorem hangs_plain (op rd rs1 rs2 imm : Int) (late : Bool) (An : Option Addr) (mn cn : Nat) (how : Int) (w : World) :
    Calls Tryz.prog 48 #[wkV ⟨⟨op, rd, rs1, rs2, imm⟩, late, .slice An mn cn, how⟩, .string (B []), optV true false, .slice none 0 0] w (RetIt (itV 3 0 0 [] ⟨op, rd, rs1, rs2, imm⟩ [] 4 (.slice An mn cn) how false false) w) := by
  have le2 : w.heap.size ≤ w.heap.size + 1 + 1 := by omega
  go_enter Tryz.func48, Tryz.ntmps48
  have le3 : w.heap.size ≤ w.heap.size + 1 + 1 + 1 := by omega
  go_wp2
  refine bodyPost_ret (v := .tuple #[itV 3 0 0 [] ⟨op, rd, rs1, rs2, imm⟩ [] 4 (.slice An mn cn) how false false, .bool true]) (by simp [results, Tryz.results48, go_sem]) rfl ?_
  exact ⟨rfl, by repeat (with_reducible first | exact Nx.refl _ | refine Nx.alloc ?_ _ | refine Nx.setCell ?_ le2 _ | refine Nx.setCell ?_ le3 _ | refine Nx.drewN ?_ _)⟩

/-- Four boxes. -/
theorem four_has {w w2 : World} {A0 A1 A2 A3 : Obj} (h : Nx ((((w.alloc A0).alloc A1).alloc A2).alloc A3) w2) : Has w2 (w.heap.size + 1 + 1) A2 ∧ Has w2 (w.heap.size + 1 + 1 + 1) A3 ∧ Nx w w2 :=
  ⟨Has.nx ((Has.at_ _ A2 (by simp)).alloc A3) h, Has.nx (Has.at_ _ _ (by simp)) h, Nx.trans (((((Nx.refl w).alloc _).alloc _).alloc _).alloc _) h⟩

set_option maxHeartbeats 16000000 in
set_option maxRecDepth 100000 in
theorem hangs_short (s : List UInt8) (hs : s ≠ []) (op rd rs1 rs2 imm : Int) (late : Bool) (An : Option Addr) (mn cn : Nat) (how : Int) (hf : fitS (B s) op rd rs1 rs2 0 = true) (w : World) :
    Calls Tryz.prog 48 #[wkV ⟨⟨op, rd, rs1, rs2, imm⟩, late, .slice An mn cn, how⟩, .string (B s), optV true false, .slice none 0 0] w (RetIt (itV 3 0 0 [] ⟨op, rd, rs1, rs2, imm⟩ s 2 (.slice An mn cn) how false false) w) := by
  have le2 : w.heap.size ≤ w.heap.size + 1 + 1 := by omega
  have CC := Lib.hid (could_any s op rd rs1 rs2 imm hf)
  have b1 : (s != []) = true := by simpa using hs
  have b2 : (s == []) = false := by simpa using hs
  clear hs hf
  go_enter Tryz.func48, Tryz.ntmps48
  have le3 : w.heap.size ≤ w.heap.size + 1 + 1 + 1 := by omega
  go_wp2_with fail
  go_region_with (go_at_call 77; refine (CC.out _).mono ?_; rintro e w2 ⟨rfl, hn2⟩; obtain ⟨k2, k3, hx⟩ := four_has (Nx.trans ((Nx.refl _).drew) hn2); have K2 := Lib.hid k2; have K3 := Lib.hid k3; have HX := Lib.hid hx; clear k2 k3 hx hn2; have rc0 := K2.out.cell 0 _ rfl; have rf0 := K2.out.free 0; have rc1 := K2.out.cell 1 _ rfl; have rf1 := K2.out.free 1; have rc2 := K2.out.cell 2 _ rfl; have rf2 := K2.out.free 2; have rc3 := K2.out.cell 3 _ rfl; have rf3 := K2.out.free 3; have rc4 := K2.out.cell 4 _ rfl; have rf4 := K2.out.free 4; have rc5 := K2.out.cell 5 _ rfl; have rf5 := K2.out.free 5; have rc6 := K2.out.cell 6 _ rfl; have rf6 := K2.out.free 6; have rc7 := K2.out.cell 7 _ rfl; have rf7 := K2.out.free 7; have rc8 := K2.out.cell 8 _ rfl; have rf8 := K2.out.free 8; have rc9 := K2.out.cell 9 _ rfl; have rf9 := K2.out.free 9; have rc10 := K2.out.cell 10 _ rfl; have rf10 := K2.out.free 10; have rc11 := K2.out.cell 11 _ rfl; have rf11 := K2.out.free 11; have rc12 := K2.out.cell 12 _ rfl; have rf12 := K2.out.free 12; have rc13 := K2.out.cell 13 _ rfl; have rf13 := K2.out.free 13; have rc14 := K2.out.cell 14 _ rfl; have rf14 := K2.out.free 14; have rz := K2.out.lt; have dc0 := K3.out.cell 0 _ rfl; have df0 := K3.out.free 0; have dc1 := K3.out.cell 1 _ rfl; have df1 := K3.out.free 1; have dc2 := K3.out.cell 2 _ rfl; have df2 := K3.out.free 2; have dc3 := K3.out.cell 3 _ rfl; have df3 := K3.out.free 3; have dc4 := K3.out.cell 4 _ rfl; have df4 := K3.out.free 4; have dc5 := K3.out.cell 5 _ rfl; have df5 := K3.out.free 5; have dc6 := K3.out.cell 6 _ rfl; have df6 := K3.out.free 6; have dc7 := K3.out.cell 7 _ rfl; have df7 := K3.out.free 7; have dc8 := K3.out.cell 8 _ rfl; have df8 := K3.out.free 8; have dc9 := K3.out.cell 9 _ rfl; have df9 := K3.out.free 9; have dc10 := K3.out.cell 10 _ rfl; have df10 := K3.out.free 10; have dc11 := K3.out.cell 11 _ rfl; have df11 := K3.out.free 11; have dc12 := K3.out.cell 12 _ rfl; have df12 := K3.out.free 12; have dc13 := K3.out.cell 13 _ rfl; have df13 := K3.out.free 13; have dc14 := K3.out.cell 14 _ rfl; have df14 := K3.out.free 14; have dz := K3.out.lt)
  all_goals
    go_wp2
    refine bodyPost_ret (v := .tuple #[itV 3 0 0 [] ⟨op, rd, rs1, rs2, imm⟩ s 2 (.slice An mn cn) how false false, .bool true]) (by simp [results, Tryz.results48, go_sem, rc0, rf0, rc1, rf1, rc2, rf2, rc3, rf3, rc4, rf4, rc5, rf5, rc6, rf6, rc7, rf7, rc8, rf8, rc9, rf9, rc10, rf10, rc11, rf11, rc12, rf12, rc13, rf13, rc14, rf14, rz]) rfl ?_
    exact ⟨rfl, by repeat (with_reducible first | exact HX.out | refine Nx.alloc ?_ _ | refine Nx.setCell ?_ le2 _ | refine Nx.setCell ?_ le3 _ | refine Nx.drewN ?_ _)⟩

end Go.Proofs.YtdgmdkkockbkjaaGreatDoor

/- Contracts of typecaseref17: Known and hangs, for all texts. -/
namespace Go.Proofs.YtdgmdkkockbkjaaGreatDoor
open Go.RowKit
set_option linter.unusedVariables false
set_option linter.unusedSimpArgs false

theorem may_zero (i : In5) (s : List UInt8) (h : okT i s = true) (hj : (lsT i s).contains 106 = true) : mayB i.op i.rd i.rs1 i.rs2 0 = true := by
  by_cases hs : s = []
  · subst hs
    have hm := okT_may i _ h
    have hf : formN i.op = 2 ∨ formN i.op = 3 := by
      unfold lsT at hj
      rw [if_pos rfl] at hj
      rcases formN_range i.op with hf | hf | hf | hf | hf | hf | hf | hf | hf | hf <;> rw [hf] at hj ⊢ <;> first | exact Or.inl rfl | exact Or.inr rfl | (exfalso; revert hj; decide)
    unfold mayB at hm ⊢
    simp only [Bool.and_eq_true] at hm ⊢
    refine ⟨hm.1, hm.2.1, hm.2.2.1, hm.2.2.2.1, ?_⟩
    rcases hf with hf | hf <;> rw [hf] <;> decide
  · have := back_fit i s h hs hj
    rw [fitS_ref] at this
    unfold rFitB at this
    rw [Bool.and_eq_true] at this
    exact this.1

theorem known_all (i : In5) (s : List UInt8) (h : okT i s = true) (h0 : -2147483648 ≤ i.imm) (h1 : i.imm ≤ 2147483647) (w : World) :
    Calls Tryz.prog 47 #[insV (endI i s), .string (B s), optV true false] w (RetIt (itV 2 0 0 [] (endI i s) s (szS s) (.slice none 0 0) 0 false false) w) := by
  have key : mayB i.op i.rd i.rs1 i.rs2 (endI i s).imm = true ∧ (s ≠ [] → fitS (B s) i.op i.rd i.rs1 i.rs2 (endI i s).imm = true) ∧ -2147483648 ≤ (endI i s).imm ∧ (endI i s).imm ≤ 2147483647 ∧ (endI i s) = ⟨i.op, i.rd, i.rs1, i.rs2, (endI i s).imm⟩ := by
    unfold endI
    split
    · rename_i hj
      exact ⟨may_zero i s h hj, fun hs => back_fit i s h hs hj, by show (-2147483648 : Int) ≤ 0; decide, by show (0 : Int) ≤ 2147483647; decide, rfl⟩
    · exact ⟨okT_may i s h, fun hs => (back_may i s h).resolve_left hs, h0, h1, rfl⟩
  obtain ⟨k1, k2, k3, k4, k5⟩ := key
  rw [k5]
  by_cases hs : s = []
  · subst hs
    exact known_plain _ _ _ _ _ k1 k3 k4 w
  · unfold szS
    rw [if_neg hs]
    exact known_short _ _ _ _ _ s hs (k2 hs) k1 k3 k4 w

theorem hangs_all (i : In5) (s : List UInt8) (h : okT i s = true) (hj : (lsT i s).contains 106 = true) (late : Bool) (An : Option Addr) (mn cn : Nat) (how : Int) (w : World) :
    Calls Tryz.prog 48 #[wkV ⟨endI i s, late, .slice An mn cn, how⟩, .string (B s), optV true false, .slice none 0 0] w (RetIt (itV 3 0 0 [] (endI i s) s (szS s) (.slice An mn cn) how false false) w) := by
  have he : endI i s = ⟨i.op, i.rd, i.rs1, i.rs2, 0⟩ := by unfold endI; rw [if_pos hj]
  rw [he]
  by_cases hs : s = []
  · subst hs
    exact hangs_plain _ _ _ _ _ late An mn cn how w
  · unfold szS
    rw [if_neg hs]
    exact hangs_short s hs _ _ _ _ _ late An mn cn how (back_fit i s h hs hj) w

end Go.Proofs.YtdgmdkkockbkjaaGreatDoor

