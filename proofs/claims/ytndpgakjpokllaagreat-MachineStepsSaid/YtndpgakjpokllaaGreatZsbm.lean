/- Parts of the proof, one behind the other. -/
import Derived.Test.YtndpgakjpokllaaGreatZsae
import Derived.Test.YtndpgakjpokllaaGreatZsbk
import Derived.Test.YtndpgakjpokllaaGreatZsbl
/- package machine: the machine in memory; set, at. -/
namespace Go.Proofs.YtndpgakjpokllaaGreat
open Go.RowKit
set_option linter.unusedVariables false
set_option linter.unusedSimpArgs false
set_option maxRecDepth 100000

/-- Registers, the pc, a pointer (or a slice): 34 cells. -/
def machC (rg : List Int) (pc : Int) (v : Value) : Array Value := (rg.map (Value.int .u32) ++ [.int .u32 pc, v]).toArray

theorem machC_reg {rg : List Int} (h : rg.length = 32) (pc : Int) (v : Value) (i : Nat) (hi : i < 32) : (machC rg pc v)[i]? = some (.int .u32 (rg.getD i 0)) := by
  unfold machC
  rw [List.getElem?_toArray, List.getElem?_append_left (by rw [List.length_map]; omega), List.getElem?_map, List.getD_eq_getElem?_getD, List.getElem?_eq_getElem (by omega)]
  rfl

theorem machC_pc {rg : List Int} (h : rg.length = 32) (pc : Int) (v : Value) : (machC rg pc v)[32]? = some (.int .u32 pc) := by
  unfold machC
  rw [List.getElem?_toArray, List.getElem?_append_right (by rw [List.length_map]; omega), List.length_map, h]
  rfl

theorem machC_ptr {rg : List Int} (h : rg.length = 32) (pc : Int) (v : Value) : (machC rg pc v)[33]? = some v := by
  unfold machC
  rw [List.getElem?_toArray, List.getElem?_append_right (by rw [List.length_map]; omega), List.length_map, h]
  rfl

theorem machC_set {rg : List Int} (h : rg.length = 32) (pc : Int) (v : Value) (i : Nat) (hi : i < 32) (x : Int) : (machC rg pc v).setIfInBounds i (.int .u32 x) = machC (rg.set i x) pc v := by
  unfold machC
  rw [List.setIfInBounds_toArray, List.set_append_left _ _ (by rw [List.length_map]; omega), List.map_set]

theorem machC_setpc {rg : List Int} (h : rg.length = 32) (pc : Int) (v : Value) (x : Int) : (machC rg pc v).setIfInBounds 32 (.int .u32 x) = machC rg x v := by
  unfold machC
  rw [List.setIfInBounds_toArray, List.set_append_right _ _ (by rw [List.length_map]; omega), List.length_map, h]
  rfl

/-- Two blocks may have turned; there may be new ones. -/
structure Chg (p b : Nat) (w w' : World) : Prop where
  os : w'.os = w.os
  tape : w'.tape = w.tape
  output : w'.output = w.output
  size : w.heap.size ≤ w'.heap.size
  block : ∀ k, k < w.heap.size → k ≠ p → k ≠ b → w'.heap[k]? = w.heap[k]?

theorem Chg.refl (p b : Nat) (w : World) : Chg p b w w := ⟨rfl, rfl, rfl, Nat.le_refl _, fun _ _ _ _ => rfl⟩

theorem Chg.trans {p b : Nat} {w w2 w3 : World} (h : Chg p b w w2) (k : Chg p b w2 w3) : Chg p b w w3 :=
  ⟨k.os.trans h.os, k.tape.trans h.tape, k.output.trans h.output, Nat.le_trans h.size k.size, fun j hj h1 h2 => (k.block j (Nat.lt_of_lt_of_le hj h.size) h1 h2).trans (h.block j hj h1 h2)⟩

theorem Chg.of_nx {p b : Nat} {w w' : World} (h : Nx w w') : Chg p b w w' := ⟨h.os, h.tape, h.output, h.size, fun k hk _ _ => Below.block h k hk⟩

theorem Chg.of_grown {p b : Nat} {w w' : World} (h : w.grownBy w' (some b)) : Chg p b w w' := ⟨h.os, h.tape, h.output, h.size, fun k hk _ h2 => h.block k hk (fun e => h2 (by injection e))⟩

theorem Chg.of_set (p b : Nat) (w : World) (i : Nat) (u : Value) : Chg p b w (w.setCell ⟨p, i, none⟩ u) :=
  ⟨rfl, rfl, rfl, by simp, fun k _ h1 _ => Below.heap_setCell w ⟨p, i, none⟩ u k h1⟩

theorem Chg.nx {p b : Nat} {a w w' : World} (h : Chg p b w w') (hn : Nx a w) (hp : a.heap.size ≤ p) (hb : a.heap.size ≤ b) : Nx a w' :=
  ⟨h.os.trans hn.os, h.tape.trans hn.tape, h.output.trans hn.output, Nat.le_trans hn.size h.size, fun k hk => (h.block k (Nat.lt_of_lt_of_le hk hn.size) (by omega) (by omega)).trans (Below.block hn k hk)⟩

/-- A machine in memory. -/
structure MachAt (w : World) (p pm b n : Nat) (s : MSt) : Prop where
  has : Has w p (.cells (machC s.rg s.pc (.pointer (some ⟨pm, 0, none⟩))) 53)
  good : Good s
  mem : MemAt w pm b n s.M
  pm_ne : p ≠ pm
  b_ne : p ≠ b

theorem MachAt.nx {w w' : World} {p pm b n : Nat} {s : MSt} (h : MachAt w p pm b n s) (hn : Nx w w') : MachAt w' p pm b n s := ⟨h.has.nx hn, h.good, h.mem.nx hn, h.pm_ne, h.b_ne⟩

theorem MachAt.len {w : World} {p pm b n : Nat} {s : MSt} (h : MachAt w p pm b n s) : s.rg.length = 32 := h.good.1.1

theorem MachAt.reg {w : World} {p pm b n : Nat} {s : MSt} (h : MachAt w p pm b n s) (i : Nat) (hi : i < 32) : w.cell? ⟨p, i, none⟩ = some (.int .u32 (s.rg.getD i 0)) := h.has.cell i _ (machC_reg h.len _ _ i hi)

theorem MachAt.pcc {w : World} {p pm b n : Nat} {s : MSt} (h : MachAt w p pm b n s) : w.cell? ⟨p, 32, none⟩ = some (.int .u32 s.pc) := h.has.cell 32 _ (machC_pc h.len _ _)

theorem MachAt.ptr {w : World} {p pm b n : Nat} {s : MSt} (h : MachAt w p pm b n s) : w.cell? ⟨p, 33, none⟩ = some (.pointer (some ⟨pm, 0, none⟩)) := h.has.cell 33 _ (machC_ptr h.len _ _)

theorem MachAt.free {w : World} {p pm b n : Nat} {s : MSt} (h : MachAt w p pm b n s) (i : Nat) : w.frozen? ⟨p, i, none⟩ = false := h.has.free i

/-- A register is set. -/
theorem MachAt.setReg {w : World} {p pm b n : Nat} {s : MSt} (h : MachAt w p pm b n s) (i : Nat) (h0 : 0 < i) (hi : i < 32) (v : Int) (v0 : 0 ≤ v) (v1 : v < 4294967296) :
    MachAt (w.setCell ⟨p, i, none⟩ (.int .u32 v)) p pm b n { s with rg := setR s.rg i v } := by
  have e : setR s.rg i v = s.rg.set i v := by
    unfold setR
    rw [if_neg (by omega)]
    rfl
  refine ⟨?_, ⟨setR_good h.good.1 _ _ v0 v1, h.good.2⟩, ⟨?_, h.mem.2.of_block (Below.heap_setCell w ⟨p, i, none⟩ _ b (fun e => h.b_ne e.symm))⟩, h.pm_ne, h.b_ne⟩
  · have := h.has.put i (.int .u32 v)
    rw [machC_set h.len _ _ i hi] at this
    rw [e]
    exact this
  · exact (World.cell?_setCell_far w ⟨p, i, none⟩ ⟨pm, 0, none⟩ _ h.pm_ne).trans h.mem.1

/-- The pc is set. -/
theorem MachAt.setPc {w : World} {p pm b n : Nat} {s : MSt} (h : MachAt w p pm b n s) (v : Int) (v0 : 0 ≤ v) (v1 : v < 4294967296) : MachAt (w.setCell ⟨p, 32, none⟩ (.int .u32 v)) p pm b n { s with pc := v } := by
  refine ⟨?_, ⟨h.good.1, v0, v1, h.good.2.2.2⟩, ⟨?_, h.mem.2.of_block (Below.heap_setCell w ⟨p, 32, none⟩ _ b (fun e => h.b_ne e.symm))⟩, h.pm_ne, h.b_ne⟩
  · have := h.has.put 32 (.int .u32 v)
    rw [machC_setpc h.len] at this
    exact this
  · exact (World.cell?_setCell_far w ⟨p, 32, none⟩ ⟨pm, 0, none⟩ _ h.pm_ne).trans h.mem.1

/-- What comes of what turns a machine. -/
def RetMach (p pm b n : Nat) (v : Value) (s : MSt) (w : World) (e : Ending) (w' : World) : Prop := e = .returned v ∧ MachAt w' p pm b n s ∧ Chg p b w w'

set_option maxHeartbeats 1000000 in
theorem set_any (p pm b n : Nat) (s : MSt) (rd v : Int) (r0 : 0 ≤ rd) (r1 : rd ≤ 31) (v0 : 0 ≤ v) (v1 : v < 4294967296) (w : World) (h : MachAt w p pm b n s) :
    Calls Tryz.prog 31 #[.pointer (some ⟨p, 0, none⟩), .int .i64 rd, .int .u32 v] w (RetMach p pm b n (.tuple #[]) { s with rg := setR s.rg rd v } w) := by
  have H := Lib.hid h
  have hp := h.has.lt
  by_cases h0 : rd = 0
  · subst h0
    clear h
    go_enter Tryz.func31, Tryz.ntmps31
    go_wp2_with fail
    go_end0
    exact ⟨rfl, H.out, Chg.refl _ _ _⟩
  · obtain ⟨i, rfl⟩ := Int.eq_ofNat_of_zero_le r0
    have hne : ((i : Int) != 0) = true := by simp; omega
    have hi : i < 32 := by omega
    have hiI : (i : Int) < 32 := by omega
    have c := h.reg i hi
    have f := h.free i
    clear h
    go_enter Tryz.func31, Tryz.ntmps31
    go_wp2_with fail
    go_end0
    exact ⟨rfl, H.out.setReg i (by omega) hi v v0 v1, Chg.of_set _ _ _ _ _⟩

/-- What lies at the pc, as a value of the inner interface. -/
def fetV (M : Int → Int) (pc : Int) : Value :=
  if loadM M pc 2 % 4 = 3 then (if loadM M pc 2 / 4 % 8 = 7 then .nilIface else .iface 91 (.int .u32 (loadM M pc 4))) else .iface 90 (.int .u16 (loadM M pc 2))

def fetB (M : Int → Int) (pc : Int) : Bool := !(decide (loadM M pc 2 % 4 = 3) && decide (loadM M pc 2 / 4 % 8 = 7))

set_option maxHeartbeats 1000000 in
theorem mat_any (p pm b n : Nat) (s : MSt) (pc : Int) (p0 : 0 ≤ pc) (p1 : pc < 4294967296) (w : World) (h : MachAt w p pm b n s) :
    Calls Tryz.prog 23 #[.pointer (some ⟨p, 0, none⟩), .int .u32 pc] w fun e w' => e = .returned (.tuple #[fetV s.M pc, .bool (fetB s.M pc)]) ∧ w' = w := by
  have hp := h.has.lt
  have c := h.ptr
  have HM := Lib.hid h.mem
  obtain ⟨l0, l1⟩ := loadM_bounds h.good.2.2.2 pc 2
  obtain ⟨x0, x1⟩ := load_u32 h.good.2.2.2 pc 4 (by omega)
  have C2 : Hid (Calls Tryz.prog 29 #[.pointer (some ⟨pm, 0, none⟩), .int .u32 pc, .int .i64 2] w fun e w' => e = .returned (.int .u32 (loadM s.M pc 2)) ∧ w' = w) := Lib.hid (load_any pm b n s.M pc 2 (by omega) p0 p1 w HM.out)
  have C4 : Hid (Calls Tryz.prog 29 #[.pointer (some ⟨pm, 0, none⟩), .int .u32 pc, .int .i64 4] w fun e w' => e = .returned (.int .u32 (loadM s.M pc 4)) ∧ w' = w) := Lib.hid (load_any pm b n s.M pc 4 (by omega) p0 p1 w HM.out)
  have l2 : loadM s.M pc 2 < 65536 := by simpa using l1
  unfold fetV fetB
  obtain ⟨L, hL⟩ : ∃ x, loadM s.M pc 2 = x := ⟨_, rfl⟩
  obtain ⟨X, hX⟩ : ∃ x, loadM s.M pc 4 = x := ⟨_, rfl⟩
  rw [hL] at l0 l2 C2 ⊢
  rw [hX] at x0 x1 C4 ⊢
  clear l1 hL hX h
  have F1 := Lib.hid (fun w => field_any L 0 2 w l0 (by omega))
  have F2 := Lib.hid (fun w => field_any L 2 3 w l0 (by omega))
  have e1 : fld L (cl 0) (cl 2) = L % 4 := fld_q L
  have e2 : fld L (cl 2) (cl 3) = L / 4 % 8 := by
    have : cl 2 = 2 ∧ cl 3 = 3 := ⟨rfl, rfl⟩
    rw [this.1, this.2]
    unfold fld
    simp
  rw [e1] at F1
  rw [e2] at F2
  clear e1 e2
  by_cases h3 : L % 4 = 3
  · rw [if_pos h3]
    have h3b : ((L % 4) != 3) = false := by rw [h3]; rfl
    by_cases h7 : L / 4 % 8 = 7
    · rw [if_pos h7, decide_eq_true h3, decide_eq_true h7]
      have h7b : ((L / 4 % 8) != 7) = false := by rw [h7]; rfl
      clear h3 h7
      go_enter Tryz.func23, Tryz.ntmps23
      go_wp2_with (first | (go_at_call 29; with_reducible refine C2.out.mono ?_; rintro e w' ⟨rfl, hw⟩; rw [hw]; clear hw) | (go_at_call 43; with_reducible refine (F1.out _).mono ?_; rintro e w' ⟨rfl, hw⟩; rw [← hw]; clear hw) | (go_at_call 43; with_reducible refine (F2.out _).mono ?_; rintro e w' ⟨rfl, hw⟩; rw [← hw]; clear hw))
      refine bodyPost_ret (results_tmp2 rfl _ _ _) rfl ?_
      exact ⟨rfl, rfl⟩
    · rw [if_neg h7, decide_eq_true h3, decide_eq_false h7]
      have h7b : ((L / 4 % 8) != 7) = true := by rw [bne_iff_ne]; exact h7
      clear h3 h7
      go_enter Tryz.func23, Tryz.ntmps23
      go_wp2_with (first | (go_at_call 29; first | (with_reducible refine C2.out.mono ?_; rintro e w' ⟨rfl, hw⟩; rw [hw]; clear hw) | (with_reducible refine C4.out.mono ?_; rintro e w' ⟨rfl, hw⟩; rw [hw]; clear hw)) | (go_at_call 43; first | (with_reducible refine (F1.out _).mono ?_; rintro e w' ⟨rfl, hw⟩; rw [← hw]; clear hw) | (with_reducible refine (F2.out _).mono ?_; rintro e w' ⟨rfl, hw⟩; rw [← hw]; clear hw)))
      refine bodyPost_ret (results_tmp2 rfl _ _ _) rfl ?_
      exact ⟨rfl, rfl⟩
  · rw [if_neg h3, decide_eq_false h3]
    have h3b : ((L % 4) != 3) = true := by rw [bne_iff_ne]; exact h3
    clear h3
    go_enter Tryz.func23, Tryz.ntmps23
    go_wp2_with (first | (go_at_call 29; with_reducible refine C2.out.mono ?_; rintro e w' ⟨rfl, hw⟩; rw [hw]; clear hw) | (go_at_call 43; with_reducible refine (F1.out _).mono ?_; rintro e w' ⟨rfl, hw⟩; rw [← hw]; clear hw))
    refine bodyPost_ret (results_tmp2 rfl _ _ _) rfl ?_
    exact ⟨rfl, rfl⟩

end Go.Proofs.YtndpgakjpokllaaGreat

/- package machine: what is fetched is expanded; Fetch. -/
namespace Go.Proofs.YtndpgakjpokllaaGreat
open Go.RowKit
set_option linter.unusedVariables false
set_option linter.unusedSimpArgs false
set_option maxRecDepth 100000

/-- What comes of what hands back an instruction. -/
def RetIns (i : In5) (b : Bool) (w : World) (e : Ending) (w' : World) : Prop := e = .returned (.tuple #[.agg #[.int .i64 i.op, .int .i64 i.rd, .int .i64 i.rs1, .int .i64 i.rs2, .int .i32 i.imm], .bool b]) ∧ Nx w w'

theorem expand_ins (x : Int) (w : World) (hx : 0 ≤ x) (hx' : x < 65536) : Calls Tryz.prog 151 #[.int .u16 x] w (RetIns (expI x) (!((expI x).op == 0)) w) := by
  have := expand_any x w hx hx'
  rw [exp_eq] at this
  exact this

theorem decode_ins (x : Int) (w : World) (hx : 0 ≤ x) (hx' : x < 4294967296) : Calls Tryz.prog 163 #[.int .u32 x] w (RetIns (decJ x) (!((decJ x).op == 0)) w) := by
  have := decode_any x w hx hx'
  unfold decI at this
  rw [dec_eq] at this
  have e : (!((decP x).op == 0)) = (!((decJ x).op == 0)) := by
    unfold decJ
    by_cases h : (decP x).op = 0
    · rw [if_pos h, h]; rfl
    · rw [if_neg h]
  rw [e] at this
  exact this

set_option maxHeartbeats 1000000 in
theorem pexpand_any (x : Int) (w : World) (hx : 0 ≤ x) (hx' : x < 65536) : Calls Tryz.prog 149 #[.int .u16 x] w (RetIns (expI x) (!((expI x).op == 0)) w) := by
  have C := Lib.hid (fun w => expand_ins x w hx hx')
  obtain ⟨i, hi⟩ : ∃ i, expI x = i := ⟨_, rfl⟩
  rw [hi] at C ⊢
  clear hi
  obtain ⟨op, rd, rs1, rs2, imm⟩ := i
  obtain ⟨b, hb⟩ : ∃ b, (!(In5.op ⟨op, rd, rs1, rs2, imm⟩ == 0)) = b := ⟨_, rfl⟩
  rw [hb] at C ⊢
  clear hb
  go_enter Tryz.func149, Tryz.ntmps149
  go_wp2_with fail
  refine (C.out _).mono ?_
  rintro e w1 ⟨rfl, hn⟩
  obtain ⟨c0, c1, c2, c3, c4, z0, z1, z2, z3, z4, hz⟩ := five_cells hn
  have hb := Lib.hid (((Nx.refl w).alloc _).trans hn)
  go_wp2_with fail
  refine bodyPost_ret (v := .tuple #[.agg #[.int .i64 op, .int .i64 rd, .int .i64 rs1, .int .i64 rs2, .int .i32 imm], .bool b]) (by simp [results, Tryz.results149, go_sem, c0, c1, c2, c3, c4, hz]) rfl ⟨rfl, ?_⟩
  repeat (with_reducible first | refine Nx.alloc ?_ _ | refine Nx.setCell ?_ (Nat.le_refl _) _)
  exact hb.out

set_option maxHeartbeats 1000000 in
theorem fexpand_any (x : Int) (w : World) (hx : 0 ≤ x) (hx' : x < 4294967296) : Calls Tryz.prog 161 #[.int .u32 x] w (RetIns (decJ x) (!((decJ x).op == 0)) w) := by
  have C := Lib.hid (fun w => decode_ins x w hx hx')
  obtain ⟨i, hi⟩ : ∃ i, decJ x = i := ⟨_, rfl⟩
  rw [hi] at C ⊢
  clear hi
  obtain ⟨op, rd, rs1, rs2, imm⟩ := i
  obtain ⟨b, hb⟩ : ∃ b, (!(In5.op ⟨op, rd, rs1, rs2, imm⟩ == 0)) = b := ⟨_, rfl⟩
  rw [hb] at C ⊢
  clear hb
  go_enter Tryz.func161, Tryz.ntmps161
  go_wp2_with fail
  refine (C.out _).mono ?_
  rintro e w1 ⟨rfl, hn⟩
  obtain ⟨c0, c1, c2, c3, c4, z0, z1, z2, z3, z4, hz⟩ := five_cells hn
  have hb := Lib.hid (((Nx.refl w).alloc _).trans hn)
  go_wp2_with fail
  refine bodyPost_ret (v := .tuple #[.agg #[.int .i64 op, .int .i64 rd, .int .i64 rs1, .int .i64 rs2, .int .i32 imm], .bool b]) (by simp [results, Tryz.results161, go_sem, c0, c1, c2, c3, c4, hz]) rfl ⟨rfl, ?_⟩
  repeat (with_reducible first | refine Nx.alloc ?_ _ | refine Nx.setCell ?_ (Nat.le_refl _) _)
  exact hb.out

theorem psize_any (x : Int) (w : World) : Calls Tryz.prog 150 #[.int .u16 x] w fun e w' => e = .returned (.int .i64 2) ∧ Nx w w' := by
  go_enter Tryz.func150, Tryz.ntmps150
  go_wp2_with fail
  go_ret
  exact ⟨rfl, Nx.refl _⟩

theorem fsize_any (x : Int) (w : World) : Calls Tryz.prog 162 #[.int .u32 x] w fun e w' => e = .returned (.int .i64 4) ∧ Nx w w' := by
  go_enter Tryz.func162, Tryz.ntmps162
  go_wp2_with fail
  go_ret
  exact ⟨rfl, Nx.refl _⟩

/-- What comes of Fetch. -/
def RetFet (i : In5) (n : Int) (w : World) (e : Ending) (w' : World) : Prop := e = .returned (.tuple #[.agg #[.int .i64 i.op, .int .i64 i.rd, .int .i64 i.rs1, .int .i64 i.rs2, .int .i32 i.imm], .int .i64 n, .bool (!(i.op == 0))]) ∧ Nx w w'

theorem meth_pe (x : Int) (w : World) : (Go.method 290 90 (.int .u16 x) "typecase/machine.expand").run Tryz.prog w = .ok (149, .int .u16 x) w := by kernel_rfl

theorem meth_fe (x : Int) (w : World) : (Go.method 290 91 (.int .u32 x) "typecase/machine.expand").run Tryz.prog w = .ok (161, .int .u32 x) w := by kernel_rfl

theorem meth_ps (x : Int) (w : World) : (Go.method 290 90 (.int .u16 x) "typecase/machine.size").run Tryz.prog w = .ok (150, .int .u16 x) w := by kernel_rfl

theorem meth_fs (x : Int) (w : World) : (Go.method 290 91 (.int .u32 x) "typecase/machine.size").run Tryz.prog w = .ok (162, .int .u32 x) w := by kernel_rfl

set_option maxHeartbeats 2000000 in
/-- Behind 'at', of either size. -/
theorem fetch_go (p pm b n : Nat) (s : MSt) (w : World) (h : MachAt w p pm b n s) (hB : fetB s.M s.pc = true) (fv : Value) (hV : fetV s.M s.pc = fv) (i : In5) (sz : Int) (hi : i.op = 0 → i = none5)
    (hcase : (∃ x, fv = .iface 90 (.int .u16 x) ∧ sz = 2 ∧ ∀ w, Calls Tryz.prog 149 #[.int .u16 x] w (RetIns i (!(i.op == 0)) w)) ∨
      (∃ x, fv = .iface 91 (.int .u32 x) ∧ sz = 4 ∧ ∀ w, Calls Tryz.prog 161 #[.int .u32 x] w (RetIns i (!(i.op == 0)) w))) :
    Calls Tryz.prog 12 #[.pointer (some ⟨p, 0, none⟩)] w (RetFet i (if i.op = 0 then 0 else sz) w) := by
  have hp := h.has.lt
  have c := h.pcc
  have CA := Lib.hid (fun (w' : World) (hn : Nx w w') => mat_any p pm b n s s.pc h.good.2.1 h.good.2.2.1 w' (h.nx hn))
  rw [hV, hB] at CA
  obtain ⟨P, hP⟩ : ∃ x, s.pc = x := ⟨_, rfl⟩
  rw [hP] at CA c
  clear h hB hV hP
  obtain ⟨op, rd, rs1, rs2, imm⟩ := i
  rcases hcase with ⟨x, rfl, rfl, C⟩ | ⟨x, rfl, rfl, C⟩
  · have HC := Lib.hid C
    clear C
    have m1 := meth_pe
    have m2 := meth_ps
    by_cases h0 : op = 0
    · have e := hi h0
      cases e
      go_enter Tryz.func12, Tryz.ntmps12
      go_wp2_with (first | (go_at_call 23; refine (CA.out _ ((Nx.refl w).alloc _)).mono ?_; rintro e w' ⟨rfl, hw⟩; rw [hw]; clear hw) | (go_at_call 149; refine (HC.out _).mono ?_; rintro e w1 ⟨rfl, hn⟩; obtain ⟨c0, c1, c2, c3, c4, z0, z1, z2, z3, z4, hz⟩ := five_cells hn; have hb := Lib.hid (((Nx.refl w).alloc _).trans hn); clear hn))
      refine bodyPost_ret (v := .tuple #[.agg #[.int .i64 0, .int .i64 0, .int .i64 0, .int .i64 0, .int .i32 0], .int .i64 0, .bool false]) (by simp [results, Tryz.results12, go_sem, c0, c1, c2, c3, c4, hz]) rfl ⟨rfl, ?_⟩
      repeat (with_reducible first | exact hb.out | refine Nx.alloc ?_ _ | refine Nx.setCell ?_ (Nat.le_refl _) _)
    · have hb0 : (op == 0) = false := beq_eq_false_iff_ne.2 h0
      rw [if_neg h0]
      rw [hb0] at HC
      unfold RetFet
      rw [hb0]
      go_enter Tryz.func12, Tryz.ntmps12
      go_upto_region 7 with (first | (go_at_call 23; refine (CA.out _ ((Nx.refl w).alloc _)).mono ?_; rintro e w' ⟨rfl, hw⟩; rw [hw]; clear hw) | (go_at_call 149; refine (HC.out _).mono ?_; rintro e w1 ⟨rfl, hn⟩; obtain ⟨c0, c1, c2, c3, c4, z0, z1, z2, z3, z4, hz⟩ := five_cells hn; have hb := Lib.hid (((Nx.refl w).alloc _).trans hn); clear hn))
      (refine wp_region_nx 3 (by kernel_rfl) (by kernel_rfl) ?_; simp only [List.take_succ_cons, List.take_zero, List.drop_succ_cons, List.drop_zero]; (repeat (refine wpQuiet_step (fun K hK => ?_); go_simp; first | (refine hK _ ?_; clear hK K) | (apply Exists.intro; refine ⟨fun w' hw' => ?_, hK _ ?_⟩; (first | (with_reducible rfl) | (go_at_call 150; with_reducible exact (psize_any _ _).mono fun _ _ h => ⟨h.1, hw'.trans h.2⟩) | (obtain ⟨hc, hf⟩ := nx_cells hw'; go_simp; with_reducible rfl) | (obtain ⟨hc, hf⟩ := nx_cells hw'; go_simp; rfl)); clear hK K))); refine wpQuiet_nil ?_; intro w2 hn2)
      have k := ((Nx.refl w1).alloc _).trans hn2
      replace c0 := k.cell c0
      replace c1 := k.cell c1
      replace c2 := k.cell c2
      replace c3 := k.cell c3
      replace c4 := k.cell c4
      have y0 := (k.frozen (p := ⟨w.heap.size, 0, none⟩) hz).trans z0
      have y1 := (k.frozen (p := ⟨w.heap.size, 1, none⟩) hz).trans z1
      have y2 := (k.frozen (p := ⟨w.heap.size, 2, none⟩) hz).trans z2
      have y3 := (k.frozen (p := ⟨w.heap.size, 3, none⟩) hz).trans z3
      have y4 := (k.frozen (p := ⟨w.heap.size, 4, none⟩) hz).trans z4
      have hz2 : w.heap.size < w2.heap.size := Nat.lt_of_lt_of_le hz k.size
      have hb2 := Lib.hid (hb.out.trans k)
      clear hn2 k hb z0 z1 z2 z3 z4 hz
      go_wp2_with fail
      refine bodyPost_ret (v := .tuple #[.agg #[.int .i64 op, .int .i64 rd, .int .i64 rs1, .int .i64 rs2, .int .i32 imm], .int .i64 2, .bool true]) (by simp [results, Tryz.results12, go_sem, c0, c1, c2, c3, c4, hz2]) rfl ⟨rfl, ?_⟩
      repeat (with_reducible first | exact hb2.out | refine Nx.alloc ?_ _ | refine Nx.setCell ?_ (Nat.le_refl _) _)
  · have HC := Lib.hid C
    clear C
    have m1 := meth_fe
    have m2 := meth_fs
    by_cases h0 : op = 0
    · have e := hi h0
      cases e
      go_enter Tryz.func12, Tryz.ntmps12
      go_wp2_with (first | (go_at_call 23; refine (CA.out _ ((Nx.refl w).alloc _)).mono ?_; rintro e w' ⟨rfl, hw⟩; rw [hw]; clear hw) | (go_at_call 161; refine (HC.out _).mono ?_; rintro e w1 ⟨rfl, hn⟩; obtain ⟨c0, c1, c2, c3, c4, z0, z1, z2, z3, z4, hz⟩ := five_cells hn; have hb := Lib.hid (((Nx.refl w).alloc _).trans hn); clear hn))
      refine bodyPost_ret (v := .tuple #[.agg #[.int .i64 0, .int .i64 0, .int .i64 0, .int .i64 0, .int .i32 0], .int .i64 0, .bool false]) (by simp [results, Tryz.results12, go_sem, c0, c1, c2, c3, c4, hz]) rfl ⟨rfl, ?_⟩
      repeat (with_reducible first | exact hb.out | refine Nx.alloc ?_ _ | refine Nx.setCell ?_ (Nat.le_refl _) _)
    · have hb0 : (op == 0) = false := beq_eq_false_iff_ne.2 h0
      rw [if_neg h0]
      rw [hb0] at HC
      unfold RetFet
      rw [hb0]
      go_enter Tryz.func12, Tryz.ntmps12
      go_upto_region 7 with (first | (go_at_call 23; refine (CA.out _ ((Nx.refl w).alloc _)).mono ?_; rintro e w' ⟨rfl, hw⟩; rw [hw]; clear hw) | (go_at_call 161; refine (HC.out _).mono ?_; rintro e w1 ⟨rfl, hn⟩; obtain ⟨c0, c1, c2, c3, c4, z0, z1, z2, z3, z4, hz⟩ := five_cells hn; have hb := Lib.hid (((Nx.refl w).alloc _).trans hn); clear hn))
      (refine wp_region_nx 3 (by kernel_rfl) (by kernel_rfl) ?_; simp only [List.take_succ_cons, List.take_zero, List.drop_succ_cons, List.drop_zero]; (repeat (refine wpQuiet_step (fun K hK => ?_); go_simp; first | (refine hK _ ?_; clear hK K) | (apply Exists.intro; refine ⟨fun w' hw' => ?_, hK _ ?_⟩; (first | (with_reducible rfl) | (go_at_call 162; with_reducible exact (fsize_any _ _).mono fun _ _ h => ⟨h.1, hw'.trans h.2⟩) | (obtain ⟨hc, hf⟩ := nx_cells hw'; go_simp; with_reducible rfl) | (obtain ⟨hc, hf⟩ := nx_cells hw'; go_simp; rfl)); clear hK K))); refine wpQuiet_nil ?_; intro w2 hn2)
      have k := ((Nx.refl w1).alloc _).trans hn2
      replace c0 := k.cell c0
      replace c1 := k.cell c1
      replace c2 := k.cell c2
      replace c3 := k.cell c3
      replace c4 := k.cell c4
      have y0 := (k.frozen (p := ⟨w.heap.size, 0, none⟩) hz).trans z0
      have y1 := (k.frozen (p := ⟨w.heap.size, 1, none⟩) hz).trans z1
      have y2 := (k.frozen (p := ⟨w.heap.size, 2, none⟩) hz).trans z2
      have y3 := (k.frozen (p := ⟨w.heap.size, 3, none⟩) hz).trans z3
      have y4 := (k.frozen (p := ⟨w.heap.size, 4, none⟩) hz).trans z4
      have hz2 : w.heap.size < w2.heap.size := Nat.lt_of_lt_of_le hz k.size
      have hb2 := Lib.hid (hb.out.trans k)
      clear hn2 k hb z0 z1 z2 z3 z4 hz
      go_wp2_with fail
      refine bodyPost_ret (v := .tuple #[.agg #[.int .i64 op, .int .i64 rd, .int .i64 rs1, .int .i64 rs2, .int .i32 imm], .int .i64 4, .bool true]) (by simp [results, Tryz.results12, go_sem, c0, c1, c2, c3, c4, hz2]) rfl ⟨rfl, ?_⟩
      repeat (with_reducible first | exact hb2.out | refine Nx.alloc ?_ _ | refine Nx.setCell ?_ (Nat.le_refl _) _)

set_option maxHeartbeats 2000000 in
theorem fetch_no (p pm b n : Nat) (s : MSt) (w : World) (h : MachAt w p pm b n s) (hB : fetB s.M s.pc = false) : Calls Tryz.prog 12 #[.pointer (some ⟨p, 0, none⟩)] w (RetFet none5 0 w) := by
  have hp := h.has.lt
  have c := h.pcc
  have CA := Lib.hid (fun (w' : World) (hn : Nx w w') => mat_any p pm b n s s.pc h.good.2.1 h.good.2.2.1 w' (h.nx hn))
  rw [hB] at CA
  obtain ⟨P, hP⟩ : ∃ x, s.pc = x := ⟨_, rfl⟩
  rw [hP] at CA c
  obtain ⟨fv, hV⟩ : ∃ x, fetV s.M P = x := ⟨_, rfl⟩
  rw [hV] at CA
  clear h hB hV hP
  go_enter Tryz.func12, Tryz.ntmps12
  go_wp2_with (go_at_call 23; refine (CA.out _ ((Nx.refl w).alloc _)).mono ?_; rintro e w' ⟨rfl, hw⟩; rw [hw]; clear hw)
  refine bodyPost_ret (v := .tuple #[.agg #[.int .i64 0, .int .i64 0, .int .i64 0, .int .i64 0, .int .i32 0], .int .i64 0, .bool false]) (by simp [results, Tryz.results12, go_sem]) rfl ⟨rfl, ?_⟩
  repeat (with_reducible first | exact Nx.refl _ | refine Nx.alloc ?_ _ | refine Nx.setCell ?_ (Nat.le_refl _) _)

theorem fetch_any (p pm b n : Nat) (s : MSt) (w : World) (h : MachAt w p pm b n s) : Calls Tryz.prog 12 #[.pointer (some ⟨p, 0, none⟩)] w (RetFet (fetI s.M s.pc) (fetN s.M s.pc) w) := by
  obtain ⟨l0, l1⟩ := loadM_bounds h.good.2.2.2 s.pc 2
  obtain ⟨x0, x1⟩ := load_u32 h.good.2.2.2 s.pc 4 (by omega)
  have l2 : loadM s.M s.pc 2 < 65536 := by simpa using l1
  have hnone := fet_none s.M s.pc
  by_cases h3 : loadM s.M s.pc 2 % 4 = 3
  · by_cases h7 : loadM s.M s.pc 2 / 4 % 8 = 7
    · have e1 : fetI s.M s.pc = none5 := by unfold fetI; rw [if_pos h3, if_pos h7]
      have e2 : fetN s.M s.pc = 0 := by unfold fetN; rw [e1]; rfl
      rw [e1, e2]
      exact fetch_no p pm b n s w h (by unfold fetB; rw [decide_eq_true h3, decide_eq_true h7]; rfl)
    · have e1 : fetI s.M s.pc = decJ (loadM s.M s.pc 4) := by unfold fetI; rw [if_pos h3, if_neg h7]
      have e2 : fetN s.M s.pc = if (fetI s.M s.pc).op = 0 then 0 else 4 := by unfold fetN; rw [if_pos h3]
      rw [e2]
      refine fetch_go p pm b n s w h (by unfold fetB; rw [decide_eq_true h3, decide_eq_false h7]; rfl) _ rfl _ 4 hnone (.inr ⟨loadM s.M s.pc 4, ?_, rfl, fun w => ?_⟩)
      · unfold fetV; rw [if_pos h3, if_neg h7]
      · rw [e1]; exact fexpand_any _ w x0 x1
  · have e1 : fetI s.M s.pc = expI (loadM s.M s.pc 2) := by unfold fetI; rw [if_neg h3]
    have e2 : fetN s.M s.pc = if (fetI s.M s.pc).op = 0 then 0 else 2 := by unfold fetN; rw [if_neg h3]
    rw [e2]
    refine fetch_go p pm b n s w h (by unfold fetB; rw [decide_eq_false h3]; rfl) _ rfl _ 2 hnone (.inl ⟨loadM s.M s.pc 2, ?_, rfl, fun w => ?_⟩)
    · unfold fetV; rw [if_neg h3]
    · rw [e1]; exact pexpand_any _ w l0 l2

end Go.Proofs.YtndpgakjpokllaaGreat

