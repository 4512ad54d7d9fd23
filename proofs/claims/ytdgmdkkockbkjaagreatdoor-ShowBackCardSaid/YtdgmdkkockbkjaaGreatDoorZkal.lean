/- Parts of the proof, one behind the other. -/
import Derived.Test.YtdgmdkkockbkjaaGreatDoorRefia
import Derived.RegionTactic
import Derived.Deep.RegionHeld3
import Derived.Test.YtdgmdkkockbkjaaGreatDoorZkaj
import Derived.Test.YtdgmdkkockbkjaaGreatDoorZkak
/- Contracts of typecaseref17.Letters and ins, at the name of a text; what a name tells. -/
namespace Go.Proofs.YtdgmdkkockbkjaaGreatDoor
open Go.RowKit
set_option linter.unusedVariables false
set_option linter.unusedSimpArgs false

theorem okT_short (i : In5) (s : List UInt8) (h : okT i s = true) (hs : s ≠ []) : ∃ (n : Nat) (r : PR), rowsL[n]? = some r ∧ n < 27 ∧ s = shB.getD n [] ∧ lsT i s = letSL.getD n [] ∧ fitsB r i.op i.rd i.rs1 i.rs2 i.imm = true := by
  unfold okT at h
  simp only [Bool.and_eq_true, Bool.or_eq_true, beq_iff_eq] at h
  obtain ⟨n, r, hr, e1, e2, e3, hf, hall⟩ := fitS_row _ _ _ _ _ _ (h.2.resolve_left hs)
  have hn : n < 27 := (List.getElem?_eq_some_iff.1 hr).1
  refine ⟨n, r, hr, hn, e2, ?_, hf⟩
  unfold lsT letS
  rw [if_neg hs, e3]

theorem okT_plain (i : In5) (h : okT i [] = true) : nmT i [] = nmB.getD i.op.toNat [] ∧ lsT i [] = letF (formN (i.op.toNat : Nat)) ∧ 1 ≤ i.op.toNat ∧ i.op.toNat ≤ 48 ∧ (i.op.toNat : Int) = i.op := by
  rcases nmT_or i [] h with ⟨_, h1, h2, h3⟩ | ⟨h1, _⟩
  · have e : (i.op.toNat : Int) = i.op := by omega
    refine ⟨h1, ?_, by omega, by omega, e⟩
    unfold lsT
    rw [if_pos rfl, e]
  · exact absurd h1 (by decide)

theorem letF_not1 : ∀ k < 49, (letF (formN (k : Nat))).length ≠ 1 := by decide +kernel

def RetLs (L : List UInt8) (w : World) (e : Ending) (w' : World) : Prop := e = .returned (.tuple #[.string (B L), .bool true]) ∧ Nx w w'

theorem letters_nm (i : In5) (s : List UInt8) (h : okT i s = true) (w : World) : Calls Tryz.prog 42 #[.string (B (nmT i s)), .int .i64 (lsT i s).length] w (RetLs (lsT i s) w) := by
  have hL : lqP (lsT i s) (lsT i s).length = lsT i s := by unfold lqP; rw [if_pos rfl]
  by_cases hs : s = []
  · subst hs
    obtain ⟨h1, h2, h3, h4, h5⟩ := okT_plain i h
    have := letters17_op i.op.toNat _ h3 h4 rfl (lsT i []).length (fun e => absurd (h2 ▸ e) (letF_not1 _ (by omega))) w
    rw [← h2] at this
    unfold RetLq at this
    rw [hL] at this
    rw [h1]
    exact this
  · obtain ⟨n, r, hr, hn, h1, h2, hf⟩ := okT_short i s h hs
    have hm : nmT i s = s := by unfold nmT; rw [if_neg hs]
    have := letters17_sh n hn (lsT i s).length w
    rw [← h2, ← h1] at this
    unfold RetLq at this
    rw [hL] at this
    rw [hm]
    exact this

theorem ins_row (n : Nat) (r : PR) (hr : rowsL[n]? = some r) : ((insOp.getD n (0, 0)).1 : Int) = r.op := by
  have hn : n < 27 := (List.getElem?_eq_some_iff.1 hr).1
  rcases (by omega : n = 0 ∨ n = 1 ∨ n = 2 ∨ n = 3 ∨ n = 4 ∨ n = 5 ∨ n = 6 ∨ n = 7 ∨ n = 8 ∨ n = 9 ∨ n = 10 ∨ n = 11 ∨ n = 12 ∨ n = 13 ∨ n = 14 ∨ n = 15 ∨ n = 16 ∨ n = 17 ∨ n = 18 ∨ n = 19 ∨ n = 20 ∨ n = 21 ∨ n = 22 ∨ n = 23 ∨ n = 24 ∨ n = 25 ∨ n = 26) with rfl | rfl | rfl | rfl | rfl | rfl | rfl | rfl | rfl | rfl | rfl | rfl | rfl | rfl | rfl | rfl | rfl | rfl | rfl | rfl | rfl | rfl | rfl | rfl | rfl | rfl | rfl
  all_goals
    cases hr
    rfl

theorem ins_rd : ∀ n < 27, (insOp.getD n (0, 0)).2 = (if shB.getD n [] = [99, 46, 106, 97, 108] ∨ shB.getD n [] = [99, 46, 106, 97, 108, 114] then 1 else 0 : Int) := by decide

theorem ins_nm (i : In5) (s : List UInt8) (h : okT i s = true) (w : World) : Calls Tryz.prog 45 #[.string (B (nmT i s))] w (RetIns i.op (ins0 i s).rd w) := by
  by_cases hs : s = []
  · subst hs
    obtain ⟨h1, h2, h3, h4, h5⟩ := okT_plain i h
    have := ins17_op i.op.toNat _ h3 h4 rfl w
    rw [h5] at this
    rw [h1]
    exact this
  · obtain ⟨n, r, hr, hn, h1, h2, hf⟩ := okT_short i s h hs
    have hm : nmT i s = s := by unfold nmT; rw [if_neg hs]
    have := ins17_sh n hn w
    have ho : i.op = r.op := by
      unfold fitsB at hf
      simp only [Bool.and_eq_true, beq_iff_eq] at hf
      exact hf.1
    rw [ins_row n r hr, ← ho, ins_rd n hn, ← h1] at this
    rw [hm]
    exact this

/-- The names that make no one instruction. -/
def spL : List (List UInt8) := [[108, 105], [108, 97], [99, 97, 108, 108], [116, 97, 105, 108], [46, 111, 112, 116, 105, 111, 110], [46, 122, 101, 114, 111], [46, 97, 108, 105, 103, 110], [46, 111, 114, 103], [46, 98, 121, 116, 101], [46, 104, 97, 108, 102], [46, 119, 111, 114, 100], [46, 50, 98, 121, 116, 101], [46, 52, 98, 121, 116, 101], [46, 97, 115, 99, 105, 105], [46, 97, 115, 99, 105, 122]]

theorem nm_in (i : In5) (s : List UInt8) (h : okT i s = true) : nmT i s ∈ nmB ∨ nmT i s ∈ shB := by
  rcases nmT_or i s h with ⟨_, h1, h2, h3⟩ | ⟨h1, h2⟩
  · exact Or.inl (h1 ▸ List.mem_of_getElem? (nmB_at i.op.toNat (by omega)))
  · exact Or.inr (by rw [h2]; exact h1)

theorem nm_special (i : In5) (s : List UInt8) (h : okT i s = true) : inB (nmT i s) spL = false := by
  have h1 : ∀ a ∈ nmB, inB a spL = false := by decide +kernel
  have h2 : ∀ a ∈ shB, inB a spL = false := by decide +kernel
  rcases nm_in i s h with h | h
  · exact h1 _ h
  · exact h2 _ h

theorem nm_jal (i : In5) (s : List UInt8) (h : okT i s = true) : inB (nmT i s) [[106, 97, 108], [106, 97, 108, 114]] = true → (lsT i s).length ≠ 1 := by
  by_cases hs : s = []
  · subst hs
    obtain ⟨h1, h2, h3, h4, h5⟩ := okT_plain i h
    intro _
    rw [h2]
    exact letF_not1 _ (by omega)
  · intro hx
    have hm : nmT i s = s := by unfold nmT; rw [if_neg hs]
    obtain ⟨n, r, hr, hn, h1, h2, hf⟩ := okT_short i s h hs
    have : ∀ n < 27, inB (shB.getD n []) [[106, 97, 108], [106, 97, 108, 114]] = false := by decide +kernel
    rw [hm, h1, this n hn] at hx
    cases hx

theorem nm_c (i : In5) (s : List UInt8) (h : okT i s = true) : (s = [] → ((nmT i s).take 2 == [99, 46]) = false) ∧ (s ≠ [] → 2 < (nmT i s).length ∧ ((nmT i s).take 2 == [99, 46]) = true ∧ nmT i s = s) := by
  refine ⟨fun hs => ?_, fun hs => ?_⟩
  · have h1 : ∀ a ∈ nmB, (a.take 2 == [99, 46]) = false := by decide +kernel
    subst hs
    rcases nmT_or i [] h with ⟨_, h2, h3, h4⟩ | ⟨h2, _⟩
    · rw [h2]; exact h1 _ (List.mem_of_getElem? (nmB_at i.op.toNat (by omega)))
    · exact absurd h2 (by decide)
  · have hm : nmT i s = s := by unfold nmT; rw [if_neg hs]
    have h1 : ∀ a ∈ shB, 2 < a.length ∧ (a.take 2 == [99, 46]) = true := by decide +kernel
    rcases nmT_or i s h with ⟨h2, _⟩ | ⟨h2, h3⟩
    · exact absurd h2 hs
    · rw [hm]
      exact ⟨(h1 s h2).1, (h1 s h2).2, rfl⟩

theorem nm_pos (i : In5) (s : List UInt8) (h : okT i s = true) : nmT i s ≠ [] ∧ (nmT i s).length ≤ 10 := by
  refine ⟨?_, (nmT_opC i s h).2⟩
  by_cases hs : s = []
  · subst hs
    obtain ⟨h1, h2, h3, h4, h5⟩ := okT_plain i h
    rw [h1]
    exact nmB_ne _ (by omega) h3
  · have hm : nmT i s = s := by unfold nmT; rw [if_neg hs]
    rw [hm]; exact hs

end Go.Proofs.YtdgmdkkockbkjaaGreatDoor

/- Contracts of package typecaseref09: Fits, name by name. -/
namespace Go.Proofs.YtdgmdkkockbkjaaGreatDoor
open Go.RowKit
set_option linter.unusedVariables false
set_option linter.unusedSimpArgs false

set_option maxRecDepth 100000 in
set_option maxHeartbeats 4000000 in
theorem rfit_0 (k : Nat) (s : List UInt8) (rd rs1 rs2 imm : Int) (w : World) (hv : -2147483648 ≤ imm) (hv' : imm ≤ 2147483647) (hs : nmB[k]? = some s) (hk : k < 49) (h : mayB k rd rs1 rs2 imm = true) :
    Calls Tryz.prog 75 #[.string (B [99, 46, 97, 100, 100, 105, 52, 115, 112, 110]), .agg #[.int .i64 k, .int .i64 rd, .int .i64 rs1, .int .i64 rs2, .int .i32 imm]] w fun e w' => e = .returned (.bool ((s == [97, 100, 100, 105]) && (fewB rd && ((rs1 == 2) && fromB imm 4 4 1020)))) ∧ Nx w w' := by
  have HS := Lib.hid hs
  have hlen := nm_len k s hk hs
  have hcat := cat_c s
  clear hs
  go_enter Tryz.func75, Tryz.ntmps75
  go_wp2_with fail
  refine (rmay_any _ _ _ _ _ _ hv hv').mono ?_
  rintro e w1 ⟨rfl, hn1⟩
  rw [h]
  obtain ⟨c0, c1, c2, c3, c4, hz⟩ := five_in hn1
  have HN := Lib.hid (((Nx.refl w).alloc _).trans hn1)
  clear hn1
  go_wp2
  go_region_with (go_at_call 85; refine (names_nm k s HS.out _).mono ?_; rintro e w2 ⟨g, rfl, hg, hn2⟩; have hn3 : Nx w1 w2 := Nx.trans ((Nx.refl _).drew) hn2; have d0 := hn3.cell c0)
  all_goals
    have d1 := hn3.cell c1
    have d2 := hn3.cell c2
    have d3 := hn3.cell c3
    have d4 := hn3.cell c4
    have hz3 : w.heap.size < w2.heap.size := Nat.lt_of_lt_of_le hz hn3.size
    have HN3 := Lib.hid (HN.out.trans hn3)
    clear hn2 hn3 hg c0 c1 c2 c3 c4
    go_wp2_with (first | (go_at_call 88; refine (rfew_any _ _).mono ?_; rintro e w' ⟨rfl, rfl⟩) | (go_at_call 89; refine (rfrom_any _ _ _ _ _ (by decide)).mono ?_; rintro e w' ⟨rfl, rfl⟩))
    all_goals
      go_ret
      exact ⟨ret_bool (by first | rfl | (simp [*, bne, Bool.and_assoc]; done)), HN3.out⟩

set_option maxRecDepth 100000 in
set_option maxHeartbeats 4000000 in
theorem rfit_1 (k : Nat) (s : List UInt8) (rd rs1 rs2 imm : Int) (w : World) (hv : -2147483648 ≤ imm) (hv' : imm ≤ 2147483647) (hs : nmB[k]? = some s) (hk : k < 49) (h : mayB k rd rs1 rs2 imm = true) :
    Calls Tryz.prog 75 #[.string (B [99, 46, 108, 119]), .agg #[.int .i64 k, .int .i64 rd, .int .i64 rs1, .int .i64 rs2, .int .i32 imm]] w fun e w' => e = .returned (.bool ((s == [108, 119]) && (fewB rd && (fewB rs1 && fromB imm 4 0 124)))) ∧ Nx w w' := by
  have HS := Lib.hid hs
  have hlen := nm_len k s hk hs
  have hcat := cat_c s
  clear hs
  go_enter Tryz.func75, Tryz.ntmps75
  go_wp2_with fail
  refine (rmay_any _ _ _ _ _ _ hv hv').mono ?_
  rintro e w1 ⟨rfl, hn1⟩
  rw [h]
  obtain ⟨c0, c1, c2, c3, c4, hz⟩ := five_in hn1
  have HN := Lib.hid (((Nx.refl w).alloc _).trans hn1)
  clear hn1
  go_wp2
  go_region_with (go_at_call 85; refine (names_nm k s HS.out _).mono ?_; rintro e w2 ⟨g, rfl, hg, hn2⟩; have hn3 : Nx w1 w2 := Nx.trans ((Nx.refl _).drew) hn2; have d0 := hn3.cell c0)
  all_goals
    have d1 := hn3.cell c1
    have d2 := hn3.cell c2
    have d3 := hn3.cell c3
    have d4 := hn3.cell c4
    have hz3 : w.heap.size < w2.heap.size := Nat.lt_of_lt_of_le hz hn3.size
    have HN3 := Lib.hid (HN.out.trans hn3)
    clear hn2 hn3 hg c0 c1 c2 c3 c4
    go_wp2_with (first | (go_at_call 88; refine (rfew_any _ _).mono ?_; rintro e w' ⟨rfl, rfl⟩) | (go_at_call 89; refine (rfrom_any _ _ _ _ _ (by decide)).mono ?_; rintro e w' ⟨rfl, rfl⟩))
    all_goals
      go_ret
      exact ⟨ret_bool (by first | rfl | (simp [*, bne, Bool.and_assoc]; done)), HN3.out⟩

set_option maxRecDepth 100000 in
set_option maxHeartbeats 4000000 in
theorem rfit_2 (k : Nat) (s : List UInt8) (rd rs1 rs2 imm : Int) (w : World) (hv : -2147483648 ≤ imm) (hv' : imm ≤ 2147483647) (hs : nmB[k]? = some s) (hk : k < 49) (h : mayB k rd rs1 rs2 imm = true) :
    Calls Tryz.prog 75 #[.string (B [99, 46, 115, 119]), .agg #[.int .i64 k, .int .i64 rd, .int .i64 rs1, .int .i64 rs2, .int .i32 imm]] w fun e w' => e = .returned (.bool ((s == [115, 119]) && (fewB rs1 && (fewB rs2 && fromB imm 4 0 124)))) ∧ Nx w w' := by
  have HS := Lib.hid hs
  have hlen := nm_len k s hk hs
  have hcat := cat_c s
  clear hs
  go_enter Tryz.func75, Tryz.ntmps75
  go_wp2_with fail
  refine (rmay_any _ _ _ _ _ _ hv hv').mono ?_
  rintro e w1 ⟨rfl, hn1⟩
  rw [h]
  obtain ⟨c0, c1, c2, c3, c4, hz⟩ := five_in hn1
  have HN := Lib.hid (((Nx.refl w).alloc _).trans hn1)
  clear hn1
  go_wp2
  go_region_with (go_at_call 85; refine (names_nm k s HS.out _).mono ?_; rintro e w2 ⟨g, rfl, hg, hn2⟩; have hn3 : Nx w1 w2 := Nx.trans ((Nx.refl _).drew) hn2; have d0 := hn3.cell c0)
  all_goals
    have d1 := hn3.cell c1
    have d2 := hn3.cell c2
    have d3 := hn3.cell c3
    have d4 := hn3.cell c4
    have hz3 : w.heap.size < w2.heap.size := Nat.lt_of_lt_of_le hz hn3.size
    have HN3 := Lib.hid (HN.out.trans hn3)
    clear hn2 hn3 hg c0 c1 c2 c3 c4
    go_wp2_with (first | (go_at_call 88; refine (rfew_any _ _).mono ?_; rintro e w' ⟨rfl, rfl⟩) | (go_at_call 89; refine (rfrom_any _ _ _ _ _ (by decide)).mono ?_; rintro e w' ⟨rfl, rfl⟩))
    all_goals
      go_ret
      exact ⟨ret_bool (by first | rfl | (simp [*, bne, Bool.and_assoc]; done)), HN3.out⟩

set_option maxRecDepth 100000 in
set_option maxHeartbeats 4000000 in
theorem rfit_3 (k : Nat) (s : List UInt8) (rd rs1 rs2 imm : Int) (w : World) (hv : -2147483648 ≤ imm) (hv' : imm ≤ 2147483647) (hs : nmB[k]? = some s) (hk : k < 49) (h : mayB k rd rs1 rs2 imm = true) :
    Calls Tryz.prog 75 #[.string (B [99, 46, 110, 111, 112]), .agg #[.int .i64 k, .int .i64 rd, .int .i64 rs1, .int .i64 rs2, .int .i32 imm]] w fun e w' => e = .returned (.bool ((s == [97, 100, 100, 105]) && ((rd == 0) && ((rs1 == 0) && (imm == 0))))) ∧ Nx w w' := by
  have HS := Lib.hid hs
  have hlen := nm_len k s hk hs
  have hcat := cat_c s
  clear hs
  go_enter Tryz.func75, Tryz.ntmps75
  go_wp2_with fail
  refine (rmay_any _ _ _ _ _ _ hv hv').mono ?_
  rintro e w1 ⟨rfl, hn1⟩
  rw [h]
  obtain ⟨c0, c1, c2, c3, c4, hz⟩ := five_in hn1
  have HN := Lib.hid (((Nx.refl w).alloc _).trans hn1)
  clear hn1
  go_wp2
  go_region_with (go_at_call 85; refine (names_nm k s HS.out _).mono ?_; rintro e w2 ⟨g, rfl, hg, hn2⟩; have hn3 : Nx w1 w2 := Nx.trans ((Nx.refl _).drew) hn2; have d0 := hn3.cell c0)
  all_goals
    have d1 := hn3.cell c1
    have d2 := hn3.cell c2
    have d3 := hn3.cell c3
    have d4 := hn3.cell c4
    have hz3 : w.heap.size < w2.heap.size := Nat.lt_of_lt_of_le hz hn3.size
    have HN3 := Lib.hid (HN.out.trans hn3)
    clear hn2 hn3 hg c0 c1 c2 c3 c4
    go_wp2_with (first | (go_at_call 88; refine (rfew_any _ _).mono ?_; rintro e w' ⟨rfl, rfl⟩) | (go_at_call 89; refine (rfrom_any _ _ _ _ _ (by decide)).mono ?_; rintro e w' ⟨rfl, rfl⟩))
    all_goals
      go_ret
      exact ⟨ret_bool (by first | rfl | (simp [*, bne, Bool.and_assoc]; done)), HN3.out⟩

set_option maxRecDepth 100000 in
set_option maxHeartbeats 4000000 in
theorem rfit_4 (k : Nat) (s : List UInt8) (rd rs1 rs2 imm : Int) (w : World) (hv : -2147483648 ≤ imm) (hv' : imm ≤ 2147483647) (hs : nmB[k]? = some s) (hk : k < 49) (h : mayB k rd rs1 rs2 imm = true) :
    Calls Tryz.prog 75 #[.string (B [99, 46, 97, 100, 100, 105]), .agg #[.int .i64 k, .int .i64 rd, .int .i64 rs1, .int .i64 rs2, .int .i32 imm]] w fun e w' => e = .returned (.bool ((s == [97, 100, 100, 105]) && (!(rd == 0) && ((rd == rs1) && (fromB imm 1 (-32) 31 && !(imm == 0)))))) ∧ Nx w w' := by
  have HS := Lib.hid hs
  have hlen := nm_len k s hk hs
  have hcat := cat_c s
  clear hs
  go_enter Tryz.func75, Tryz.ntmps75
  go_wp2_with fail
  refine (rmay_any _ _ _ _ _ _ hv hv').mono ?_
  rintro e w1 ⟨rfl, hn1⟩
  rw [h]
  obtain ⟨c0, c1, c2, c3, c4, hz⟩ := five_in hn1
  have HN := Lib.hid (((Nx.refl w).alloc _).trans hn1)
  clear hn1
  go_wp2
  go_region_with (go_at_call 85; refine (names_nm k s HS.out _).mono ?_; rintro e w2 ⟨g, rfl, hg, hn2⟩; have hn3 : Nx w1 w2 := Nx.trans ((Nx.refl _).drew) hn2; have d0 := hn3.cell c0)
  all_goals
    have d1 := hn3.cell c1
    have d2 := hn3.cell c2
    have d3 := hn3.cell c3
    have d4 := hn3.cell c4
    have hz3 : w.heap.size < w2.heap.size := Nat.lt_of_lt_of_le hz hn3.size
    have HN3 := Lib.hid (HN.out.trans hn3)
    clear hn2 hn3 hg c0 c1 c2 c3 c4
    go_wp2_with (first | (go_at_call 88; refine (rfew_any _ _).mono ?_; rintro e w' ⟨rfl, rfl⟩) | (go_at_call 89; refine (rfrom_any _ _ _ _ _ (by decide)).mono ?_; rintro e w' ⟨rfl, rfl⟩))
    all_goals
      go_ret
      exact ⟨ret_bool (by first | rfl | (simp [*, bne, Bool.and_assoc]; done)), HN3.out⟩

set_option maxRecDepth 100000 in
set_option maxHeartbeats 4000000 in
theorem rfit_5 (k : Nat) (s : List UInt8) (rd rs1 rs2 imm : Int) (w : World) (hv : -2147483648 ≤ imm) (hv' : imm ≤ 2147483647) (hs : nmB[k]? = some s) (hk : k < 49) (h : mayB k rd rs1 rs2 imm = true) :
    Calls Tryz.prog 75 #[.string (B [99, 46, 106, 97, 108]), .agg #[.int .i64 k, .int .i64 rd, .int .i64 rs1, .int .i64 rs2, .int .i32 imm]] w fun e w' => e = .returned (.bool ((s == [106, 97, 108]) && ((rd == 1) && fromB imm 2 (-2048) 2047))) ∧ Nx w w' := by
  have HS := Lib.hid hs
  have hlen := nm_len k s hk hs
  have hcat := cat_c s
  clear hs
  go_enter Tryz.func75, Tryz.ntmps75
  go_wp2_with fail
  refine (rmay_any _ _ _ _ _ _ hv hv').mono ?_
  rintro e w1 ⟨rfl, hn1⟩
  rw [h]
  obtain ⟨c0, c1, c2, c3, c4, hz⟩ := five_in hn1
  have HN := Lib.hid (((Nx.refl w).alloc _).trans hn1)
  clear hn1
  go_wp2
  go_region_with (go_at_call 85; refine (names_nm k s HS.out _).mono ?_; rintro e w2 ⟨g, rfl, hg, hn2⟩; have hn3 : Nx w1 w2 := Nx.trans ((Nx.refl _).drew) hn2; have d0 := hn3.cell c0)
  all_goals
    have d1 := hn3.cell c1
    have d2 := hn3.cell c2
    have d3 := hn3.cell c3
    have d4 := hn3.cell c4
    have hz3 : w.heap.size < w2.heap.size := Nat.lt_of_lt_of_le hz hn3.size
    have HN3 := Lib.hid (HN.out.trans hn3)
    clear hn2 hn3 hg c0 c1 c2 c3 c4
    go_wp2_with (first | (go_at_call 88; refine (rfew_any _ _).mono ?_; rintro e w' ⟨rfl, rfl⟩) | (go_at_call 89; refine (rfrom_any _ _ _ _ _ (by decide)).mono ?_; rintro e w' ⟨rfl, rfl⟩))
    all_goals
      go_ret
      exact ⟨ret_bool (by first | rfl | (simp [*, bne, Bool.and_assoc]; done)), HN3.out⟩

set_option maxRecDepth 100000 in
set_option maxHeartbeats 4000000 in
theorem rfit_6 (k : Nat) (s : List UInt8) (rd rs1 rs2 imm : Int) (w : World) (hv : -2147483648 ≤ imm) (hv' : imm ≤ 2147483647) (hs : nmB[k]? = some s) (hk : k < 49) (h : mayB k rd rs1 rs2 imm = true) :
    Calls Tryz.prog 75 #[.string (B [99, 46, 108, 105]), .agg #[.int .i64 k, .int .i64 rd, .int .i64 rs1, .int .i64 rs2, .int .i32 imm]] w fun e w' => e = .returned (.bool ((s == [97, 100, 100, 105]) && (!(rd == 0) && ((rs1 == 0) && fromB imm 1 (-32) 31)))) ∧ Nx w w' := by
  have HS := Lib.hid hs
  have hlen := nm_len k s hk hs
  have hcat := cat_c s
  clear hs
  go_enter Tryz.func75, Tryz.ntmps75
  go_wp2_with fail
  refine (rmay_any _ _ _ _ _ _ hv hv').mono ?_
  rintro e w1 ⟨rfl, hn1⟩
  rw [h]
  obtain ⟨c0, c1, c2, c3, c4, hz⟩ := five_in hn1
  have HN := Lib.hid (((Nx.refl w).alloc _).trans hn1)
  clear hn1
  go_wp2
  go_region_with (go_at_call 85; refine (names_nm k s HS.out _).mono ?_; rintro e w2 ⟨g, rfl, hg, hn2⟩; have hn3 : Nx w1 w2 := Nx.trans ((Nx.refl _).drew) hn2; have d0 := hn3.cell c0)
  all_goals
    have d1 := hn3.cell c1
    have d2 := hn3.cell c2
    have d3 := hn3.cell c3
    have d4 := hn3.cell c4
    have hz3 : w.heap.size < w2.heap.size := Nat.lt_of_lt_of_le hz hn3.size
    have HN3 := Lib.hid (HN.out.trans hn3)
    clear hn2 hn3 hg c0 c1 c2 c3 c4
    go_wp2_with (first | (go_at_call 88; refine (rfew_any _ _).mono ?_; rintro e w' ⟨rfl, rfl⟩) | (go_at_call 89; refine (rfrom_any _ _ _ _ _ (by decide)).mono ?_; rintro e w' ⟨rfl, rfl⟩))
    all_goals
      go_ret
      exact ⟨ret_bool (by first | rfl | (simp [*, bne, Bool.and_assoc]; done)), HN3.out⟩

end Go.Proofs.YtdgmdkkockbkjaaGreatDoor

