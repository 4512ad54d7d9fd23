/- The walks of the laws of package typecaselaw08: awake, EncPuts, EncGets, EncApart. -/
import Derived.Test.YtpaadeiopflfgaaDoorRefhh
import Derived.OpenShut
namespace Go.Proofs.YtpaadeiopflfgaaDoor
open Go.RowKit
set_option linter.unusedVariables false
set_option linter.unusedSimpArgs false

/-- Two instructions are one, if all their parts are. -/
theorem eql_ins (a b c d e a' b' c' d' e' : Int) (w : World) :
    (binOp .eql 23 (.agg #[.int .i64 a, .int .i64 b, .int .i64 c, .int .i64 d, .int .i32 e]) (.agg #[.int .i64 a', .int .i64 b', .int .i64 c', .int .i64 d', .int .i32 e'])).run Tryd.prog w = .ok (.bool (a == a' && b == b' && c == c' && d == d' && e == e')) w := by
  simp [go_sem]
  by_cases h1 : a = a' <;> by_cases h2 : b = b' <;> by_cases h3 : c = c' <;> by_cases h4 : d = d' <;> by_cases h5 : e = e' <;> simp [h1, h2, h3, h4, h5]

theorem neq_ins (a b c d e a' b' c' d' e' : Int) (w : World) :
    (binOp .neq 23 (.agg #[.int .i64 a, .int .i64 b, .int .i64 c, .int .i64 d, .int .i32 e]) (.agg #[.int .i64 a', .int .i64 b', .int .i64 c', .int .i64 d', .int .i32 e'])).run Tryd.prog w = .ok (.bool (!(a == a' && b == b' && c == c' && d == d' && e == e'))) w := by
  simp [go_sem]
  by_cases h1 : a = a' <;> by_cases h2 : b = b' <;> by_cases h3 : c = c' <;> by_cases h4 : d = d' <;> by_cases h5 : e = e' <;> simp [h1, h2, h3, h4, h5]

/-- The word, or 0. -/
def encW (i : In5) : Int := if mayB i.op i.rd i.rs1 i.rs2 i.imm = true then enc5 i else 0

def mayI (i : In5) : Bool := mayB i.op i.rd i.rs1 i.rs2 i.imm

theorem put_any (op rd rs1 rs2 imm : Int) (w : World) (hv : -2147483648 ≤ imm) (hv' : imm ≤ 2147483647) (hP : Places w) :
    Calls Tryd.prog 8 #[.agg #[.int .i64 op, .int .i64 rd, .int .i64 rs1, .int .i64 rs2, .int .i32 imm]] w fun e w' => e = .returned (.tuple #[.int .u32 (encW ⟨op, rd, rs1, rs2, imm⟩), .bool (mayI ⟨op, rd, rs1, rs2, imm⟩)]) ∧ Nx w w' := by
  unfold encW mayI
  cases h : mayB op rd rs1 rs2 imm
  · exact put_no op rd rs1 rs2 imm w hv hv' h
  · exact put_yes op rd rs1 rs2 imm w hv hv' h hP

theorem rput_any (op rd rs1 rs2 imm : Int) (w : World) (hv : -2147483648 ≤ imm) (hv' : imm ≤ 2147483647) :
    Calls Tryd.prog 9 #[.agg #[.int .i64 op, .int .i64 rd, .int .i64 rs1, .int .i64 rs2, .int .i32 imm]] w fun e w' => e = .returned (.tuple #[.int .u32 (encW ⟨op, rd, rs1, rs2, imm⟩), .bool (mayI ⟨op, rd, rs1, rs2, imm⟩)]) ∧ Nx w w' := by
  unfold encW mayI
  cases h : mayB op rd rs1 rs2 imm
  · exact rput_no op rd rs1 rs2 imm w hv hv' h
  · exact rput_yes op rd rs1 rs2 imm w hv hv' h

theorem encW_bd (i : In5) : 0 ≤ encW i ∧ encW i < 4294967296 := by
  unfold encW
  split
  · rename_i h; exact enc5_bd i.op i.rd i.rs1 i.rs2 i.imm h
  · exact ⟨Int.le_refl 0, by decide⟩

theorem awh1 : encW ⟨19, 1, 0, 0, 5⟩ = 5243027 := by rfl

theorem awh2 : mayI ⟨19, 1, 0, 0, 5⟩ = true := by decide

theorem awh3 : getI 5243027 = ⟨19, 1, 0, 0, 5⟩ := by rfl

theorem awh4 : getB 5243027 = true := by decide

theorem awh5 : getB 15 = false := by decide

theorem get_ins (x : Int) (w : World) (hx : 0 ≤ x) (hx' : x < 4294967296) (hP : Places w) :
    Calls Tryd.prog 12 #[.int .u32 x] w fun e w' => e = .returned (.tuple #[.agg #[.int .i64 (getI x).op, .int .i64 (getI x).rd, .int .i64 (getI x).rs1, .int .i64 (getI x).rs2, .int .i32 (getI x).imm], .bool (getB x)]) ∧ Nx w w' := get_got x w hx hx' hP

set_option maxHeartbeats 1000000 in
theorem awakeh_any (w : World) (hP : Places w) : Calls Tryd.prog 7 #[] w fun e w' => e = .returned (.bool true) ∧ Nx w w' := by
  have HP := Lib.hid hP
  clear hP
  have HA : Hid (∀ w, Places w → Calls Tryd.prog 12 #[.int .u32 5243027] w fun e w' => e = .returned (.tuple #[.agg #[.int .i64 19, .int .i64 1, .int .i64 0, .int .i64 0, .int .i32 5], .bool true]) ∧ Nx w w') := by
    intro w hP
    have h := get_ins 5243027 w (by decide) (by decide) hP
    rw [awh3, awh4] at h
    exact h
  have HB : Hid (∀ w, Places w → Calls Tryd.prog 8 #[.agg #[.int .i64 19, .int .i64 1, .int .i64 0, .int .i64 0, .int .i32 5]] w fun e w' => e = .returned (.tuple #[.int .u32 5243027, .bool true]) ∧ Nx w w') := by
    intro w hP
    have h := put_any 19 1 0 0 5 w (by decide) (by decide) hP
    rw [awh1, awh2] at h
    exact h
  have HC : Hid (∀ w, Places w → Calls Tryd.prog 12 #[.int .u32 15] w fun e w' => e = .returned (.tuple #[.agg #[.int .i64 (getI 15).op, .int .i64 (getI 15).rd, .int .i64 (getI 15).rs1, .int .i64 (getI 15).rs2, .int .i32 (getI 15).imm], .bool false]) ∧ Nx w w') := by
    intro w hP
    have h := get_ins 15 w (by decide) (by decide) hP
    rw [awh5] at h
    exact h
  go_enter Tryd.func7, Tryd.ntmps7
  go_wp2_with fail
  refine (HB.out _ HP.out).mono ?_
  rintro e w1 ⟨rfl, hn1⟩
  go_wp2_with fail
  refine (HA.out _ (HP.out.keep hn1)).mono ?_
  rintro e w2 ⟨rfl, hn2⟩
  go_wp2_with fail
  refine (HC.out _ (HP.out.keep ((hn1.trans hn2).alloc _))).mono ?_
  rintro e w3 ⟨rfl, hn3⟩
  obtain ⟨c0, c1, c2, c3, c4, hz1⟩ := five_in hn3
  have hb := Lib.hid (hn1.trans (hn2.trans (((Nx.refl w2).alloc _).trans hn3)))
  have q1 := fun w => eql_ins 19 1 0 0 5 19 1 0 0 5 w
  go_wp2
  go_ret
  exact ⟨rfl, hb.out.alloc _⟩

theorem decJ_enc (op rd rs1 rs2 v : Int) (h : mayB op rd rs1 rs2 v = true) (b1 : -2147483648 ≤ v) (b2 : v ≤ 2147483647) : decJ (enc5 ⟨op, rd, rs1, rs2, v⟩) = ⟨op, rd, rs1, rs2, v⟩ ∧ ((decP (enc5 ⟨op, rd, rs1, rs2, v⟩)).op == 0) = false := by
  have h1 := dec_enc5 op rd rs1 rs2 v h b1 b2
  obtain ⟨o1, o2, _⟩ := may_facts op rd rs1 rs2 v h
  unfold decJ
  rw [h1]
  have h0 : ¬ op = 0 := by omega
  exact ⟨if_neg h0, beq_eq_false_iff_ne.2 h0⟩

set_option maxHeartbeats 1000000 in
theorem EncPuts_walk (op rd rs1 rs2 imm : Int) (hv : -2147483648 ≤ imm) (hv' : imm ≤ 2147483647) (w : World) (hP : Places w) :
    Calls Tryd.prog 3 #[.agg #[.int .i64 op, .int .i64 rd, .int .i64 rs1, .int .i64 rs2, .int .i32 imm]] w fun e w' => e = .returned (.bool true) ∧ Nx w w' := by
  have HP := Lib.hid hP
  clear hP
  obtain ⟨x1, x2⟩ := encW_bd ⟨op, rd, rs1, rs2, imm⟩
  have HPut := Lib.hid (fun w hP => put_any op rd rs1 rs2 imm w hv hv' hP)
  have HRput := Lib.hid (fun w => rput_any op rd rs1 rs2 imm w hv hv')
  have HD := Lib.hid (fun w => rdecode_any (encW ⟨op, rd, rs1, rs2, imm⟩) w x1 x2)
  have HM : Hid (∀ h : mayB op rd rs1 rs2 imm = true, decJ (encW ⟨op, rd, rs1, rs2, imm⟩) = ⟨op, rd, rs1, rs2, imm⟩ ∧ ((decP (encW ⟨op, rd, rs1, rs2, imm⟩)).op == 0) = false) := by
    intro h
    have e : encW ⟨op, rd, rs1, rs2, imm⟩ = enc5 ⟨op, rd, rs1, rs2, imm⟩ := by unfold encW; rw [if_pos h]
    rw [e]; exact decJ_enc op rd rs1 rs2 imm h hv hv'
  have hI : mayI ⟨op, rd, rs1, rs2, imm⟩ = mayB op rd rs1 rs2 imm := rfl
  rw [hI] at HPut HRput
  clear hI
  generalize encW ⟨op, rd, rs1, rs2, imm⟩ = x at *
  have q1 := fun w => eql_ins op rd rs1 rs2 imm op rd rs1 rs2 imm w
  have hs : ((op == op) && (rd == rd) && (rs1 == rs1) && (rs2 == rs2) && (imm == imm)) = true := by simp
  simp only [hs] at q1
  clear hs
  have hxx : (x != x) = false := by simp
  cases h : mayB op rd rs1 rs2 imm
  · rw [h] at HPut HRput
    clear HM
    go_enter Tryd.func3, Tryd.ntmps3
    go_wp2_with fail
    refine (awakeh_any _ (HP.out.keep ((Nx.refl w).alloc _))).mono ?_
    rintro e w1 ⟨rfl, hn1⟩
    obtain ⟨c0, c1, c2, c3, c4, hz⟩ := five_in hn1
    go_wp2_with fail
    refine (HPut.out _ (HP.out.keep (((Nx.refl w).alloc _).trans hn1))).mono ?_
    rintro e w2 ⟨rfl, hn2⟩
    obtain ⟨c0, c1, c2, c3, c4, hz⟩ := five_in (hn1.trans hn2)
    go_wp2_with fail
    refine (HRput.out _).mono ?_
    rintro e w3 ⟨rfl, hn3⟩
    obtain ⟨c0, c1, c2, c3, c4, hz⟩ := five_in (hn1.trans (hn2.trans hn3))
    go_wp2_with fail
    refine (rmay_any _ _ _ _ _ _ hv hv').mono ?_
    rintro e w4 ⟨rfl, hn4⟩
    obtain ⟨c0, c1, c2, c3, c4, hz⟩ := five_in (hn1.trans (hn2.trans (hn3.trans hn4)))
    go_wp2_with fail
    refine (HD.out _).mono ?_
    rintro e w5 ⟨rfl, hn5⟩
    have hb := Lib.hid (((Nx.refl w).alloc _).trans (hn1.trans (hn2.trans (hn3.trans (hn4.trans hn5)))))
    go_wp2
    go_ret
    exact ⟨rfl, hb.out.alloc _⟩
  · obtain ⟨eJ, e0⟩ := HM.out h
    rw [h] at HPut HRput
    rw [eJ, e0] at HD
    clear HM eJ e0
    go_enter Tryd.func3, Tryd.ntmps3
    go_wp2_with fail
    refine (awakeh_any _ (HP.out.keep ((Nx.refl w).alloc _))).mono ?_
    rintro e w1 ⟨rfl, hn1⟩
    obtain ⟨c0, c1, c2, c3, c4, hz⟩ := five_in hn1
    go_wp2_with fail
    refine (HPut.out _ (HP.out.keep (((Nx.refl w).alloc _).trans hn1))).mono ?_
    rintro e w2 ⟨rfl, hn2⟩
    obtain ⟨c0, c1, c2, c3, c4, hz⟩ := five_in (hn1.trans hn2)
    go_wp2_with fail
    refine (HRput.out _).mono ?_
    rintro e w3 ⟨rfl, hn3⟩
    obtain ⟨c0, c1, c2, c3, c4, hz⟩ := five_in (hn1.trans (hn2.trans hn3))
    go_wp2_with fail
    refine (rmay_any _ _ _ _ _ _ hv hv').mono ?_
    rintro e w4 ⟨rfl, hn4⟩
    obtain ⟨c0, c1, c2, c3, c4, hz⟩ := five_in (hn1.trans (hn2.trans (hn3.trans hn4)))
    go_wp2_with fail
    refine (HD.out _).mono ?_
    rintro e w5 ⟨rfl, hn5⟩
    obtain ⟨c0, c1, c2, c3, c4, hz⟩ := five_in (hn1.trans (hn2.trans (hn3.trans (hn4.trans hn5))))
    have hb := Lib.hid (((Nx.refl w).alloc _).trans (hn1.trans (hn2.trans (hn3.trans (hn4.trans hn5)))))
    go_wp2
    go_ret
    exact ⟨rfl, hb.out.alloc _⟩

theorem getI_imm (x : Int) : -2147483648 ≤ (getI x).imm ∧ (getI x).imm ≤ 2147483647 := by
  unfold getI
  split
  · rename_i h
    have h0 : (decP x).op ≠ 0 := by
      intro h0
      unfold getB at h
      rw [h0] at h
      simp at h
    have h1 := dec_imm_bd x
    unfold decJ at h1
    rw [if_neg h0] at h1
    exact h1
  · exact ⟨by decide, by decide⟩

/-- What is got is put as it was. -/
theorem get_put (x : Int) (hx : 0 ≤ x) (hx' : x < 4294967296) : mayI (getI x) = getB x ∧ (getB x = true → encW (getI x) = x) := by
  cases h : getB x
  · have e : getI x = none5 := by unfold getI; rw [h]; rfl
    rw [e]; exact ⟨by decide, fun c => by cases c⟩
  · have h0 : (decP x).op ≠ 0 := by
      intro h0
      unfold getB at h
      rw [h0] at h
      simp at h
    have e : getI x = decP x := by unfold getI; rw [h]; rfl
    have hm := may_decJ x (beq_eq_false_iff_ne.2 h0)
    have eJ : decJ x = decP x := by unfold decJ; rw [if_neg h0]
    rw [eJ] at hm
    have hg := get_plain x hx hx' h0
    rw [h] at hg
    rw [e]
    refine ⟨hm, fun _ => ?_⟩
    unfold encW
    rw [if_pos hm]
    simpa using hg.symm

set_option maxHeartbeats 1000000 in
theorem EncGets_walk (x : Int) (hx : 0 ≤ x) (hx' : x < 4294967296) (w : World) (hP : Places w) :
    Calls Tryd.prog 4 #[.int .u32 x] w fun e w' => e = .returned (.bool true) ∧ Nx w w' := by
  have HP := Lib.hid hP
  clear hP
  obtain ⟨b1, b2⟩ := getI_imm x
  obtain ⟨hm, hw⟩ := get_put x hx hx'
  have HG := Lib.hid (fun w hP => get_ins x w hx hx' hP)
  have HR : Hid (∀ w, Calls Tryd.prog 13 #[.int .u32 x] w fun e w' => e = .returned (.tuple #[.agg #[.int .i64 (getI x).op, .int .i64 (getI x).rd, .int .i64 (getI x).rs1, .int .i64 (getI x).rs2, .int .i32 (getI x).imm], .bool (getB x)]) ∧ Nx w w') := fun w => rget_any x w hx hx'
  generalize getI x = i at *
  obtain ⟨op, rd, rs1, rs2, imm⟩ := i
  simp only at b1 b2 HG HR
  have HPut := Lib.hid (fun w hP => put_any op rd rs1 rs2 imm w b1 b2 hP)
  rw [hm] at HPut
  have HW := Lib.hid hw
  clear hw hm
  have q1 := fun w => neq_ins op rd rs1 rs2 imm op rd rs1 rs2 imm w
  have hs : ((op == op) && (rd == rd) && (rs1 == rs1) && (rs2 == rs2) && (imm == imm)) = true := by simp
  simp only [hs, Bool.not_true] at q1
  clear hs
  cases h : getB x
  all_goals
    rw [h] at HG HR HPut HW
    first
      | (rw [HW.out rfl] at HPut)
      | skip
    clear HW
    have hxx : (x == x) = true := by simp
    go_enter Tryd.func4, Tryd.ntmps4
    go_wp2_with fail
    refine (awakeh_any _ HP.out).mono ?_
    rintro e w1 ⟨rfl, hn1⟩
    go_wp2_with fail
    refine (HG.out _ (HP.out.keep hn1)).mono ?_
    rintro e w2 ⟨rfl, hn2⟩
    go_wp2_with fail
    refine (HR.out _).mono ?_
    rintro e w3 ⟨rfl, hn3⟩
    obtain ⟨c0, c1, c2, c3, c4, hz⟩ := five_in hn3
    have hb3 := hn1.trans (hn2.trans (((Nx.refl w2).alloc _).trans hn3))
    go_wp2_with fail
    refine (HPut.out _ (HP.out.keep (hb3.alloc _))).mono ?_
    rintro e w4 ⟨rfl, hn4⟩
    have hb := Lib.hid ((hb3.alloc _).trans hn4)
    clear hb3
    go_wp2
    go_ret
    exact ⟨rfl, hb.out⟩

end Go.Proofs.YtpaadeiopflfgaaDoor
