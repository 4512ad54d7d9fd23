/- Package typecaselaw10: awake; the walk of LexLines. -/
import Derived.Test.YtbkgdepblaibkaaDoorLxj
import Derived.Test.YtbkgdepblaibkaaDoorSam
import Derived.Test.YtbkgdepblaibkaaDoorFau
import Derived.Lib.SlBytesConst
namespace Go.Proofs.YtbkgdepblaibkaaDoor
open Go.RowKit
set_option linter.unusedVariables false
set_option linter.unusedSimpArgs false

theorem bys_of (w : World) (l : List UInt8) (fz : Nat × Nat) (hl : l.length ≤ maxLen) : Bys (w.alloc (.cells (l.map fun b => Value.int .u8 b.toNat).toArray 5 fz)) (.slice (some ⟨w.heap.size, 0, none⟩) l.length l.length) l := by
  refine Or.inr ⟨w.heap.size, 0, l.length, rfl, Nat.le_refl _, hl, fun k b hk => ?_⟩
  rw [Nat.zero_add]
  refine (Has.new w (.cells (l.map fun b => Value.int .u8 b.toNat).toArray 5 fz)).cell k _ ?_
  simp [hk]

theorem eql_fl (a b c : Int) (w : World) : (binOp .eql 30 (.agg #[.int .i64 a, .int .i64 b, .int .i64 c]) (.agg #[.int .i64 a, .int .i64 b, .int .i64 c])).run Tryd.prog w = .ok (.bool true) w := by
  simp [go_sem]

theorem eql_tok (a b c : Int) (s : List UInt8) (d e : Int) (w : World) : (binOp .eql 58 (.agg #[.int .i64 a, .int .i64 b, .int .i64 c, .string (B s), .int .u32 d, .int .i64 e]) (.agg #[.int .i64 a, .int .i64 b, .int .i64 c, .string (B s), .int .u32 d, .int .i64 e])).run Tryd.prog w = .ok (.bool true) w := by
  simp [go_sem]

def aw10A : List UInt8 := [108, 105, 32, 97, 48, 44, 32, 48, 120, 49, 70, 32, 35, 32, 120]

def aw10B : List UInt8 := [10, 32, 32, 36]

def aw10L : List (List Tok) := [[⟨1, 1, 1, [108, 105], 0, 0⟩, ⟨1, 1, 4, [97, 48], 0, 0⟩, ⟨7, 1, 6, [44], 0, 0⟩, ⟨5, 1, 8, [], 31, 0⟩]]

theorem aw10_a : srcR aw10A = .ok aw10L := by kernel_rfl

theorem aw10_b : srcR aw10B = .bad 2 3 2 := by kernel_rfl

theorem aw10_l1 (w : World) (v : Value) (hE : ErrT w) (hB : Bys w v aw10A) : Calls Tryd.prog 42 #[v] w fun e w' => ∃ u, e = .returned (.tuple #[u, .nilIface]) ∧ Nx w w' ∧ Lins w' u aw10L := by
  refine (llines_any v aw10A w hE hB (by decide)).mono ?_
  rintro e w' ⟨u, ev, rfl, hn, ⟨ls, h, hL, rfl⟩ | ⟨a, b, c, h, _⟩⟩
  · rw [aw10_a] at h; cases h; exact ⟨u, rfl, hn, hL⟩
  · rw [aw10_a] at h; cases h

theorem aw10_l2 (w : World) (v : Value) (hE : ErrT w) (hB : Bys w v aw10B) : Calls Tryd.prog 42 #[v] w fun e w' => ∃ ev, e = .returned (.tuple #[.slice none 0 0, ev]) ∧ Nx w w' ∧ FaultIs w' ev 2 3 2 := by
  refine (llines_any v aw10B w hE hB (by decide)).mono ?_
  rintro e w' ⟨u, ev, rfl, hn, ⟨ls, h, _⟩ | ⟨a, b, c, h, rfl, hF, _⟩⟩
  · rw [aw10_b] at h; cases h
  · rw [aw10_b] at h; cases h; exact ⟨ev, rfl, hn, hF⟩

set_option maxHeartbeats 2000000 in
set_option maxRecDepth 100000 in
theorem awakel_any (w : World) (hE : ErrT w) : Calls Tryd.prog 41 #[] w fun e w' => e = .returned (.bool true) ∧ Nx w w' := by
  have HE := Lib.hid hE
  have HB := Lib.hid (show Bys (w.alloc (.cells #[.int .u8 108, .int .u8 105, .int .u8 32, .int .u8 97, .int .u8 48, .int .u8 44, .int .u8 32, .int .u8 48, .int .u8 120, .int .u8 49, .int .u8 70, .int .u8 32, .int .u8 35, .int .u8 32, .int .u8 120] 5 (15, 16))) (.slice (some ⟨w.heap.size, 0, none⟩) 15 15) aw10A from bys_of w aw10A _ (by decide))
  have HB2 := Lib.hid (fun w => (show Bys (w.alloc (.cells #[.int .u8 10, .int .u8 32, .int .u8 32, .int .u8 36] 5 (4, 5))) (.slice (some ⟨w.heap.size, 0, none⟩) 4 4) aw10B from bys_of w aw10B _ (by decide)))
  have kc := fun (w : World) (C : Array Value) (n c : Nat) => Lib.run_convert_bytes_const (P := Tryd.prog) w 70 5 C n c Tryd.underlying70 Tryd.underlying5
  clear hE
  go_enter Tryd.func41, Tryd.ntmps41
  go_wp2_with fail
  refine (aw10_l1 _ _ (HE.out.nx ((Nx.refl w).alloc _)) HB.out).mono ?_
  rintro e w1 ⟨u, rfl, hn1, hL⟩
  have H1 := Lib.hid (((Nx.refl w).alloc _).trans hn1)
  have HL := Lib.hid hL
  obtain ⟨A, c, rfl, hc1, hc2, _⟩ := hL.form
  clear hn1 hL HB
  go_wp2_with fail
  refine (aw10_l2 _ _ (HE.out.nx (H1.out.alloc _)) (HB2.out _)).mono ?_
  rintro e w2 ⟨ev, rfl, hn2, hF⟩
  have H2 := Lib.hid ((H1.out.alloc _).trans hn2)
  have HL2 := Lib.hid ((HL.out.nx ((Nx.refl _).alloc _)).nx hn2)
  have HF := Lib.hid hF
  clear hn2 hF HB2
  obtain ⟨g, o, c', u, he, _, hcell, hT⟩ := line_at HL2.out 0 _ rfl
  cases he
  obtain ⟨A3, c3, rfl, _, _, hA3⟩ := hT.form
  obtain ⟨g3, o3, rfl, hT3⟩ : ∃ g o, A3 = some ⟨g, o, none⟩ ∧ TokAt w2 g o [⟨1, 1, 1, [108, 105], 0, 0⟩, ⟨1, 1, 4, [97, 48], 0, 0⟩, ⟨7, 1, 6, [44], 0, 0⟩, ⟨5, 1, 8, [], 31, 0⟩] := by
    rcases hA3 with ⟨_, h, _⟩ | h
    · cases h
    · exact h
  obtain ⟨a0, a1, a2, a3, a4, a5⟩ := hT3.head
  obtain ⟨b0, b1, b2, b3, b4, b5⟩ := hT3.at_ 3 _ rfl
  dsimp only at a0 a1 a2 a3 a4 a5 b0 b1 b2 b3 b4 b5
  have q0 := fun w => eql_tok 1 1 1 [108, 105] 0 0 w
  have q1 := fun w => eql_tok 5 1 8 [] 31 0 w
  have q2 := fun w => eql_fl 2 3 2 w
  rw [Nat.add_zero] at hcell
  clear hA3 hT hT3
  go_wp2_with fail
  refine (fault_is ev 2 3 2 _ (HE.out.nx H2.out) HF.out (by decide) (by decide)).mono ?_
  rintro e w4 ⟨rfl, hn4⟩
  have H4 := Lib.hid (H2.out.trans hn4)
  clear hn4
  go_wp2
  go_ret
  exact ⟨rfl, H4.out⟩

end Go.Proofs.YtbkgdepblaibkaaDoor
