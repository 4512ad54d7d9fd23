/- The walks of the laws EncApart and EncRows. -/
import Derived.Test.YtpaadeiopflfgaaDoorLawh
namespace Go.Proofs.YtpaadeiopflfgaaDoor
open Go.RowKit
set_option linter.unusedVariables false
set_option linter.unusedSimpArgs false

def same5 (i k : In5) : Bool := i.op == k.op && i.rd == k.rd && i.rs1 == k.rs1 && i.rs2 == k.rs2 && i.imm == k.imm

theorem apart_plain (i k : In5) (b1 : -2147483648 ≤ i.imm) (b2 : i.imm ≤ 2147483647) (b3 : -2147483648 ≤ k.imm) (b4 : k.imm ≤ 2147483647) (h1 : mayI i = true) (h2 : mayI k = true) (h : same5 i k = false) : (encW i != encW k) = true := by
  rw [bne_iff_ne]
  intro e
  have e1 : encW i = enc5 i := by unfold encW; exact if_pos h1
  have e2 : encW k = enc5 k := by unfold encW; exact if_pos h2
  rw [e1, e2] at e
  have d1 := dec_enc5 i.op i.rd i.rs1 i.rs2 i.imm h1 b1 b2
  have d2 := dec_enc5 k.op k.rd k.rs1 k.rs2 k.imm h2 b3 b4
  have d3 : decP (enc5 i) = i := d1
  have d4 : decP (enc5 k) = k := d2
  rw [e, d4] at d3
  subst d3
  simp [same5] at h

theorem low_plain (i : In5) (b1 : -2147483648 ≤ i.imm) (b2 : i.imm ≤ 2147483647) (h1 : mayI i = true) : (encW i % 4 != 3) = false ∧ (encW i % 32 == 31) = false := by
  have e1 : encW i = enc5 i := by unfold encW; exact if_pos h1
  rw [e1]
  obtain ⟨a, b⟩ := enc5_low i.op i.rd i.rs1 i.rs2 i.imm h1 b1 b2
  refine ⟨?_, beq_eq_false_iff_ne.2 b⟩
  have a' : enc5 i % 4 = 3 := a
  rw [a']; rfl

theorem two_five {w w2 : World} {T : TypeId} {a b c d e a' b' c' d' e' : Value} (h : Nx ((w.alloc (.cells #[a, b, c, d, e] T)).alloc (.cells #[a', b', c', d', e'] T)) w2) :
    (w2.cell? ⟨w.heap.size, 0, none⟩ = some a ∧ w2.cell? ⟨w.heap.size, 1, none⟩ = some b ∧ w2.cell? ⟨w.heap.size, 2, none⟩ = some c ∧ w2.cell? ⟨w.heap.size, 3, none⟩ = some d ∧ w2.cell? ⟨w.heap.size, 4, none⟩ = some e) ∧
    (w2.cell? ⟨w.heap.size + 1, 0, none⟩ = some a' ∧ w2.cell? ⟨w.heap.size + 1, 1, none⟩ = some b' ∧ w2.cell? ⟨w.heap.size + 1, 2, none⟩ = some c' ∧ w2.cell? ⟨w.heap.size + 1, 3, none⟩ = some d' ∧ w2.cell? ⟨w.heap.size + 1, 4, none⟩ = some e') ∧ w.heap.size + 1 < w2.heap.size := by
  obtain ⟨c0, c1, c2, c3, c4, _⟩ := five_in (((Nx.refl _).alloc _).trans h)
  obtain ⟨d0, d1, d2, d3, d4, hz⟩ := five_in h
  have e1 : (w.alloc (.cells #[a, b, c, d, e] T)).heap.size = w.heap.size + 1 := by simp
  rw [e1] at d0 d1 d2 d3 d4 hz
  exact ⟨⟨c0, c1, c2, c3, c4⟩, ⟨d0, d1, d2, d3, d4⟩, hz⟩

set_option maxHeartbeats 2000000 in
theorem EncApart_walk (op rd rs1 rs2 imm op' rd' rs1' rs2' imm' : Int) (hv : -2147483648 ≤ imm) (hv' : imm ≤ 2147483647) (hu : -2147483648 ≤ imm') (hu' : imm' ≤ 2147483647) (w : World) (hP : Places w) :
    Calls Tryd.prog 6 #[.agg #[.int .i64 op, .int .i64 rd, .int .i64 rs1, .int .i64 rs2, .int .i32 imm], .agg #[.int .i64 op', .int .i64 rd', .int .i64 rs1', .int .i64 rs2', .int .i32 imm']] w fun e w' => e = .returned (.bool true) ∧ Nx w w' := by
  have HP := Lib.hid hP
  clear hP
  have HPut := Lib.hid (fun w hP => put_any op rd rs1 rs2 imm w hv hv' hP)
  have HPut' := Lib.hid (fun w hP => put_any op' rd' rs1' rs2' imm' w hu hu' hP)
  have HA := Lib.hid (apart_plain ⟨op, rd, rs1, rs2, imm⟩ ⟨op', rd', rs1', rs2', imm'⟩ hv hv' hu hu')
  have HL := Lib.hid (low_plain ⟨op, rd, rs1, rs2, imm⟩ hv hv')
  obtain ⟨x1, x2⟩ := encW_bd ⟨op, rd, rs1, rs2, imm⟩
  have hS : same5 ⟨op, rd, rs1, rs2, imm⟩ ⟨op', rd', rs1', rs2', imm'⟩ = (op == op' && rd == rd' && rs1 == rs1' && rs2 == rs2' && imm == imm') := rfl
  rw [hS] at HA
  clear hS
  have q1 := fun w => eql_ins op rd rs1 rs2 imm op' rd' rs1' rs2' imm' w
  generalize (op == op' && rd == rd' && rs1 == rs1' && rs2 == rs2' && imm == imm') = sm at *
  generalize encW ⟨op, rd, rs1, rs2, imm⟩ = x at *
  generalize encW ⟨op', rd', rs1', rs2', imm'⟩ = y at *
  generalize mayI ⟨op, rd, rs1, rs2, imm⟩ = m at *
  generalize mayI ⟨op', rd', rs1', rs2', imm'⟩ = m' at *
  have H1 : Hid (m = true → (x % 4 != 3) = false ∧ (x % 32 == 31) = false) := HL.out
  have H2 : Hid (m = true → m' = true → sm = false → (x != y) = true) := HA.out
  clear HA HL
  cases m <;> cases m' <;> cases sm
  all_goals
    have k1 : True ∧ True := ⟨trivial, trivial⟩
    try (have k1 := H1.out rfl)
    obtain ⟨k2, k3⟩ := k1
    have k4 : True := trivial
    try (have k4 := H2.out rfl rfl rfl)
    clear H1 H2
    go_enter Tryd.func6, Tryd.ntmps6
    go_wp2_with fail
    refine (awakeh_any _ (HP.out.keep (((Nx.refl w).alloc _).alloc _))).mono ?_
    rintro e w1 ⟨rfl, hn1⟩
    obtain ⟨⟨c0, c1, c2, c3, c4⟩, ⟨d0, d1, d2, d3, d4⟩, hz⟩ := two_five hn1
    go_wp2_with fail
    refine (HPut.out _ (HP.out.keep ((((Nx.refl w).alloc _).alloc _).trans hn1))).mono ?_
    rintro e w2 ⟨rfl, hn2⟩
    obtain ⟨⟨c0, c1, c2, c3, c4⟩, ⟨d0, d1, d2, d3, d4⟩, hz⟩ := two_five (hn1.trans hn2)
    go_wp2_with fail
    refine (HPut'.out _ (HP.out.keep ((((Nx.refl w).alloc _).alloc _).trans (hn1.trans hn2)))).mono ?_
    rintro e w3 ⟨rfl, hn3⟩
    obtain ⟨⟨c0, c1, c2, c3, c4⟩, ⟨d0, d1, d2, d3, d4⟩, hz⟩ := two_five (hn1.trans (hn2.trans hn3))
    have hb := Lib.hid ((((Nx.refl w).alloc _).alloc _).trans (hn1.trans (hn2.trans hn3)))
    go_wp2
    go_ret
    exact ⟨rfl, hb.out⟩

end Go.Proofs.YtpaadeiopflfgaaDoor
