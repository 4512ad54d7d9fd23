/- Parts of the proof, one behind the other. -/
import Derived.OpenShut
import Derived.Test.YtppnmaklggkogaaRows
import Derived.ProofKit
import Derived.Lib.SmallJoins
import Derived.Test.YtppnmaklggkogaaZac
import Derived.Test.YtppnmaklggkogaaZbe
/- The answers of package press that the document fixes. -/
namespace Go.Proofs.Ytppnmaklggkogaa
open Go.RowKit
set_option linter.unusedVariables false
set_option linter.unusedSimpArgs false

/-- Two instructions are one, if all their parts are. -/
theorem eql_ins (a b c d e a' b' c' d' e' : Int) (w : World) :
    (binOp .eql 23 (.agg #[.int .i64 a, .int .i64 b, .int .i64 c, .int .i64 d, .int .i32 e]) (.agg #[.int .i64 a', .int .i64 b', .int .i64 c', .int .i64 d', .int .i32 e'])).run Try.prog w = .ok (.bool (a == a' && b == b' && c == c' && d == d' && e == e')) w := by
  simp [go_sem]
  by_cases h1 : a = a' <;> by_cases h2 : b = b' <;> by_cases h3 : c = c' <;> by_cases h4 : d = d' <;> by_cases h5 : e = e' <;> simp [h1, h2, h3, h4, h5]

theorem awn_find : findR (B [99, 46, 108, 105]) = rowsL.getD 6 PR0 := by
  unfold findR findP
  rw [B_list]
  rfl

theorem awn_fit : fitS (B [99, 46, 108, 105]) 19 10 0 0 5 = true := by
  rw [fitS_ref, B_list]
  rfl

theorem awn_put : PutB (B [99, 46, 108, 105]) 19 10 0 0 5 = 17685 := by
  unfold PutB
  rw [awn_fit, awn_find]
  rfl

theorem awn_get0 : getV 0 = .tuple #[.string (B []), insV none5, .bool false] := by
  rw [getV_ref 0 (by decide) (by decide)]
  unfold rGetV
  rw [show rGetB 0 = false by rfl]
  rfl

theorem awn_get1 : getV 32898 = .tuple #[.string (B [99, 46, 106, 114]), insV ⟨4, 0, 1, 0, 0⟩, .bool true] := by
  rw [getV_ref 32898 (by decide) (by decide)]
  unfold rGetV
  rw [show rGetB 32898 = true by rfl]
  rfl

theorem awn_short : shortN 19 2 2 0 48 = [99, 46, 97, 100, 100, 105, 49, 54, 115, 112] := by rfl

theorem pPut_v (s : ByteArray) (op rd rs1 rs2 imm v : Int) (b : Bool) (w : World) (hv : -2147483648 ≤ imm) (hv' : imm ≤ 2147483647) (h1 : PutB s op rd rs1 rs2 imm = v) (h2 : fitS s op rd rs1 rs2 imm = b) :
    Calls Try.prog 9 #[.string s, .agg #[.int .i64 op, .int .i64 rd, .int .i64 rs1, .int .i64 rs2, .int .i32 imm]] w fun e w' => e = .returned (.tuple #[.int .u16 v, .bool b]) ∧ Nx w w' := by
  have h := pPut_any s op rd rs1 rs2 imm w hv hv'
  rw [h1, h2] at h
  exact h

theorem pGet_v (h : Int) (nm : ByteArray) (i : In5) (b : Bool) (w : World) (h0 : 0 ≤ h) (h1 : h < 65536) (hg : getV h = .tuple #[.string nm, insV i, .bool b]) :
    Calls Try.prog 13 #[.int .u16 h] w fun e w' => e = .returned (.tuple #[.string nm, .agg #[.int .i64 i.op, .int .i64 i.rd, .int .i64 i.rs1, .int .i64 i.rs2, .int .i32 i.imm], .bool b]) ∧ Nx w w' := by
  have h := pGet_any h w h0 h1
  rw [hg] at h
  exact h

theorem rGet_v (h : Int) (nm : ByteArray) (i : In5) (b : Bool) (w : World) (h0 : 0 ≤ h) (h1 : h < 65536) (hg : rGetV h = .tuple #[.string nm, insV i, .bool b]) :
    Calls Try.prog 14 #[.int .u16 h] w fun e w' => e = .returned (.tuple #[.string nm, .agg #[.int .i64 i.op, .int .i64 i.rd, .int .i64 i.rs1, .int .i64 i.rs2, .int .i32 i.imm], .bool b]) ∧ Nx w w' := by
  have h := rGet_any h w h0 h1
  rw [hg] at h
  exact h

theorem pShort_v (op rd rs1 rs2 imm : Int) (l : List UInt8) (w : World) (hv : -2147483648 ≤ imm) (hv' : imm ≤ 2147483647) (h : shortN op rd rs1 rs2 imm = l) :
    Calls Try.prog 18 #[.agg #[.int .i64 op, .int .i64 rd, .int .i64 rs1, .int .i64 rs2, .int .i32 imm]] w fun e w' => e = .returned (.string (B l)) ∧ Nx w w' := by
  subst h
  exact pShort_any op rd rs1 rs2 imm w hv hv'

set_option maxHeartbeats 1000000 in
theorem awaken_any (w : World) : Calls Try.prog 8 #[] w fun e w' => e = .returned (.bool true) ∧ Nx w w' := by
  go_enter Try.func8, Try.ntmps8
  go_wp2_with fail
  refine (pPut_v _ _ _ _ _ _ _ _ _ (by omega) (by omega) awn_put awn_fit).mono ?_
  rintro e w1 ⟨rfl, hn1⟩
  go_wp2_with fail
  refine (pGet_v _ _ _ _ _ (by omega) (by omega) awn_get0).mono ?_
  rintro e w2 ⟨rfl, hn2⟩
  go_wp2_with fail
  refine (pGet_v _ _ _ _ _ (by omega) (by omega) awn_get1).mono ?_
  rintro e w3 ⟨rfl, hn3⟩
  have q1 := fun w => eql_ins 4 0 1 0 0 4 0 1 0 0 w
  have hb := Lib.hid (hn1.trans (hn2.trans (((Nx.refl w2).alloc _).trans hn3)))
  clear hn1 hn2 hn3
  dsimp only [none5]
  go_wp2_with fail
  refine (pShort_v _ _ _ _ _ _ _ (by omega) (by omega) awn_short).mono ?_
  rintro e w4 ⟨rfl, hn4⟩
  go_wp2_with fail
  refine (pNames_any _).mono ?_
  rintro e w5 ⟨g, cap, rfl, hS, hn5⟩
  have hb2 := Lib.hid ((hb.out.alloc _).trans (hn4.trans hn5))
  clear hS hn4 hn5
  go_wp2
  go_ret
  exact ⟨rfl, hb2.out⟩

end Go.Proofs.Ytppnmaklggkogaa

/- The walks of the laws PressPuts, PressGets, PressApart, PressShort. -/
namespace Go.Proofs.Ytppnmaklggkogaa
open Go.RowKit
set_option linter.unusedVariables false
set_option linter.unusedSimpArgs false

theorem rPut_v (s : ByteArray) (op rd rs1 rs2 imm v : Int) (w : World) (hv : -2147483648 ≤ imm) (hv' : imm ≤ 2147483647) (h1 : rPutB s.toList op rd rs1 rs2 imm = v) :
    ∃ b, Calls Try.prog 10 #[.string s, .agg #[.int .i64 op, .int .i64 rd, .int .i64 rs1, .int .i64 rs2, .int .i32 imm]] w fun e w' => e = .returned (.tuple #[.int .u16 v, .bool b]) ∧ Nx w w' := by
  have h := rPut_any s op rd rs1 rs2 imm w hv hv'
  rw [h1] at h
  exact ⟨_, h⟩

theorem rFits_v (s : ByteArray) (op rd rs1 rs2 imm : Int) (b : Bool) (w : World) (hv : -2147483648 ≤ imm) (hv' : imm ≤ 2147483647) (h : fitS s op rd rs1 rs2 imm = b) :
    Calls Try.prog 11 #[.string s, .agg #[.int .i64 op, .int .i64 rd, .int .i64 rs1, .int .i64 rs2, .int .i32 imm]] w fun e w' => e = .returned (.bool b) ∧ Nx w w' := by
  have h' := rFits_any s op rd rs1 rs2 imm w hv hv'
  rw [← fitS_ref, h] at h'
  exact h'

theorem pFits_v (s : ByteArray) (op rd rs1 rs2 imm : Int) (b : Bool) (w : World) (hv : -2147483648 ≤ imm) (hv' : imm ≤ 2147483647) (h : fitS s op rd rs1 rs2 imm = b) :
    Calls Try.prog 17 #[.string s, .agg #[.int .i64 op, .int .i64 rd, .int .i64 rs1, .int .i64 rs2, .int .i32 imm]] w fun e w' => e = .returned (.bool b) ∧ Nx w w' := by
  have h' := pFits_any s op rd rs1 rs2 imm w hv hv'
  rw [h] at h'
  exact h'

theorem rexp_v (x : Int) (i : In5) (w : World) (hx : 0 ≤ x) (hx' : x < 65536) (h : expI x = i) (ho : 0 < i.op) :
    Calls Try.prog 12 #[.int .u16 x] w fun e w' => e = .returned (.tuple #[.agg #[.int .i64 i.op, .int .i64 i.rd, .int .i64 i.rs1, .int .i64 i.rs2, .int .i32 i.imm], .bool true]) ∧ Nx w w' := by
  have h' := rexp_any x w hx hx'
  rw [h, show decide (0 < i.op) = true by simpa using ho] at h'
  exact h'

theorem eql_self (i : In5) (w : World) :
    (binOp .eql 23 (.agg #[.int .i64 i.op, .int .i64 i.rd, .int .i64 i.rs1, .int .i64 i.rs2, .int .i32 i.imm]) (.agg #[.int .i64 i.op, .int .i64 i.rd, .int .i64 i.rs1, .int .i64 i.rs2, .int .i32 i.imm])).run Try.prog w = .ok (.bool true) w := by
  rw [eql_ins]
  simp

theorem neq_self (i : In5) (w : World) :
    (binOp .neq 23 (.agg #[.int .i64 i.op, .int .i64 i.rd, .int .i64 i.rs1, .int .i64 i.rs2, .int .i32 i.imm]) (.agg #[.int .i64 i.op, .int .i64 i.rd, .int .i64 i.rs1, .int .i64 i.rs2, .int .i32 i.imm])).run Try.prog w = .ok (.bool false) w := by
  simp [go_sem]

set_option maxHeartbeats 2000000 in
theorem PressPuts_yes (nm : ByteArray) (i : In5) (ws : nm.size ≤ maxLen) (wi : -2147483648 ≤ i.imm ∧ i.imm ≤ 2147483647) (w : World) (hl : ¬ 50 < nm.size) (hf : fitS nm i.op i.rd i.rs1 i.rs2 i.imm = true) :
    Calls Try.prog 3 #[.string nm, .agg #[.int .i64 i.op, .int .i64 i.rd, .int .i64 i.rs1, .int .i64 i.rs2, .int .i32 i.imm]] w fun e w' => e = .returned (.bool true) ∧ Nx w w' := by
  obtain ⟨v1, v2⟩ := wi
  obtain ⟨x, p1, p2, p3, p4, p5, p6, p7⟩ := put_all nm i hf
  have H1 := Lib.hid (fun w => pPut_v nm i.op i.rd i.rs1 i.rs2 i.imm x true w v1 v2 p1 hf)
  have H2 := Lib.hid (fun w => rPut_v nm i.op i.rd i.rs1 i.rs2 i.imm x w v1 v2 p2)
  have H3 := Lib.hid (fun w => rFits_v nm i.op i.rd i.rs1 i.rs2 i.imm true w v1 v2 hf)
  have H4 := Lib.hid (fun w => rexp_v x i w p3 p4 p5 p7)
  have H5 := Lib.hid (fun w => pGet_v x nm i true w p3 p4 ((getV_ref x p3 p4).trans p6))
  clear p1 p2 p5 p6 p7 hf
  go_enter Try.func3, Try.ntmps3
  go_wp2_with fail
  refine (awaken_any _).mono ?_
  rintro e w1 ⟨rfl, hn1⟩
  obtain ⟨c0, c1, c2, c3, c4, hz⟩ := five_in hn1
  have HB1 := Lib.hid (((Nx.refl w).alloc _).trans hn1)
  go_wp2_with fail
  refine (H1.out _).mono ?_
  rintro e w2 ⟨rfl, hn2⟩
  obtain ⟨d0, d1, d2, d3, d4, hz2⟩ := five_in (hn1.trans hn2)
  go_wp2_with fail
  obtain ⟨b, H2'⟩ := H2.out w2
  refine H2'.mono ?_
  rintro e w3 ⟨rfl, hn3⟩
  obtain ⟨d0, d1, d2, d3, d4, hz3⟩ := five_in (hn1.trans (hn2.trans hn3))
  go_wp2_with fail
  refine (H3.out _).mono ?_
  rintro e w4 ⟨rfl, hn4⟩
  go_wp2_with fail
  refine (H4.out _).mono ?_
  rintro e w5 ⟨rfl, hn5⟩
  go_wp2_with fail
  refine (H5.out _).mono ?_
  rintro e w6 ⟨rfl, hn6⟩
  obtain ⟨e0, e1, e2, e3, e4, hz6⟩ := five_in hn6
  obtain ⟨f0, f1, f2, f3, f4, hz7⟩ := five_in (hn1.trans (hn2.trans (hn3.trans (hn4.trans (hn5.trans (((Nx.refl w5).alloc _).trans hn6))))))
  have HB := Lib.hid (HB1.out.trans (hn2.trans (hn3.trans (hn4.trans (hn5.trans (((Nx.refl w5).alloc _).trans hn6))))))
  clear hn1 hn2 hn3 hn4 hn5 hn6 c0 c1 c2 c3 c4 d0 d1 d2 d3 d4
  have q1 := fun w => eql_self i w
  go_wp2
  go_ret
  exact ⟨rfl, HB.out.alloc _⟩

set_option maxHeartbeats 2000000 in
theorem PressPuts_no (nm : ByteArray) (i : In5) (ws : nm.size ≤ maxLen) (wi : -2147483648 ≤ i.imm ∧ i.imm ≤ 2147483647) (w : World) (hl : ¬ 50 < nm.size) (hf : fitS nm i.op i.rd i.rs1 i.rs2 i.imm = false) :
    Calls Try.prog 3 #[.string nm, .agg #[.int .i64 i.op, .int .i64 i.rd, .int .i64 i.rs1, .int .i64 i.rs2, .int .i32 i.imm]] w fun e w' => e = .returned (.bool true) ∧ Nx w w' := by
  obtain ⟨v1, v2⟩ := wi
  obtain ⟨p1, p2⟩ := put_no nm i.op i.rd i.rs1 i.rs2 i.imm hf
  have H1 := Lib.hid (fun w => pPut_v nm i.op i.rd i.rs1 i.rs2 i.imm 0 false w v1 v2 p1 hf)
  have H2 := Lib.hid (fun w => rPut_v nm i.op i.rd i.rs1 i.rs2 i.imm 0 w v1 v2 p2)
  have H3 := Lib.hid (fun w => rFits_v nm i.op i.rd i.rs1 i.rs2 i.imm false w v1 v2 hf)
  clear p1 p2 hf
  go_enter Try.func3, Try.ntmps3
  go_wp2_with fail
  refine (awaken_any _).mono ?_
  rintro e w1 ⟨rfl, hn1⟩
  obtain ⟨c0, c1, c2, c3, c4, hz⟩ := five_in hn1
  have HB1 := Lib.hid (((Nx.refl w).alloc _).trans hn1)
  go_wp2_with fail
  refine (H1.out _).mono ?_
  rintro e w2 ⟨rfl, hn2⟩
  obtain ⟨d0, d1, d2, d3, d4, hz2⟩ := five_in (hn1.trans hn2)
  go_wp2_with fail
  obtain ⟨b, H2'⟩ := H2.out w2
  refine H2'.mono ?_
  rintro e w3 ⟨rfl, hn3⟩
  obtain ⟨d0, d1, d2, d3, d4, hz3⟩ := five_in (hn1.trans (hn2.trans hn3))
  go_wp2_with fail
  refine (H3.out _).mono ?_
  rintro e w4 ⟨rfl, hn4⟩
  have HB := Lib.hid (HB1.out.trans (hn2.trans (hn3.trans hn4)))
  clear hn1 hn2 hn3 hn4
  go_wp2
  go_ret
  exact ⟨rfl, HB.out⟩

set_option maxHeartbeats 1000000 in
theorem PressPuts_long (nm : ByteArray) (i : In5) (ws : nm.size ≤ maxLen) (w : World) (hl : 50 < nm.size) :
    Calls Try.prog 3 #[.string nm, .agg #[.int .i64 i.op, .int .i64 i.rd, .int .i64 i.rs1, .int .i64 i.rs2, .int .i32 i.imm]] w fun e w' => e = .returned (.bool true) ∧ Nx w w' := by
  go_enter Try.func3, Try.ntmps3
  go_wp2_with fail
  refine (awaken_any _).mono ?_
  rintro e w1 ⟨rfl, hn1⟩
  have HB1 := Lib.hid (((Nx.refl w).alloc _).trans hn1)
  clear hn1
  go_wp2
  go_ret
  exact ⟨rfl, HB1.out⟩

theorem PressPuts_walk (nm : ByteArray) (i : In5) (ws : nm.size ≤ maxLen) (wi : -2147483648 ≤ i.imm ∧ i.imm ≤ 2147483647) (w : World) :
    Calls Try.prog 3 #[.string nm, .agg #[.int .i64 i.op, .int .i64 i.rd, .int .i64 i.rs1, .int .i64 i.rs2, .int .i32 i.imm]] w fun e w' => e = .returned (.bool true) ∧ Nx w w' := by
  by_cases hl : 50 < nm.size
  · exact PressPuts_long nm i ws w hl
  · cases hf : fitS nm i.op i.rd i.rs1 i.rs2 i.imm
    · exact PressPuts_no nm i ws wi w hl hf
    · exact PressPuts_yes nm i ws wi w hl hf

set_option maxHeartbeats 1000000 in
theorem PressShort_walk (i : In5) (wi : -2147483648 ≤ i.imm ∧ i.imm ≤ 2147483647) (w : World) :
    Calls Try.prog 7 #[.agg #[.int .i64 i.op, .int .i64 i.rd, .int .i64 i.rs1, .int .i64 i.rs2, .int .i32 i.imm]] w fun e w' => e = .returned (.bool true) ∧ Nx w w' := by
  obtain ⟨v1, v2⟩ := wi
  have hS := short_fits i.op i.rd i.rs1 i.rs2 i.imm
  have HS := Lib.hid (fun w => pShort_any i.op i.rd i.rs1 i.rs2 i.imm w v1 v2)
  generalize shortN i.op i.rd i.rs1 i.rs2 i.imm = s at *
  rcases hS with hS | hf
  · subst hS
    go_enter Try.func7, Try.ntmps7
    go_wp2_with fail
    refine (awaken_any _).mono ?_
    rintro e w1 ⟨rfl, hn1⟩
    obtain ⟨c0, c1, c2, c3, c4, hz⟩ := five_in hn1
    have HB1 := Lib.hid (((Nx.refl w).alloc _).trans hn1)
    clear hn1
    go_wp2_with fail
    refine (HS.out _).mono ?_
    rintro e w2 ⟨rfl, hn2⟩
    have HB := Lib.hid (HB1.out.trans hn2)
    clear hn2
    go_wp2
    go_ret
    exact ⟨rfl, HB.out⟩
  · have hne : s.isEmpty = false := by
      cases s with
      | nil => rw [fitS_nil] at hf; cases hf
      | cons a l => rfl
    obtain ⟨x, p1, p2, p3, p4, p5, p6, p7⟩ := put_all (B s) i hf
    have H1 := Lib.hid (fun w => pPut_v (B s) i.op i.rd i.rs1 i.rs2 i.imm x true w v1 v2 p1 hf)
    have H3 := Lib.hid (fun w => pFits_v (B s) i.op i.rd i.rs1 i.rs2 i.imm true w v1 v2 hf)
    have H4 := Lib.hid (fun w => rexp_v x i w p3 p4 p5 p7)
    clear p1 p2 p5 p6 p7 hf
    go_enter Try.func7, Try.ntmps7
    go_wp2_with fail
    refine (awaken_any _).mono ?_
    rintro e w1 ⟨rfl, hn1⟩
    obtain ⟨c0, c1, c2, c3, c4, hz⟩ := five_in hn1
    have HB1 := Lib.hid (((Nx.refl w).alloc _).trans hn1)
    go_wp2_with fail
    refine (HS.out _).mono ?_
    rintro e w2 ⟨rfl, hn2⟩
    obtain ⟨d0, d1, d2, d3, d4, hz2⟩ := five_in (hn1.trans hn2)
    go_wp2_with fail
    refine (H1.out _).mono ?_
    rintro e w3 ⟨rfl, hn3⟩
    go_wp2_with fail
    refine (H4.out _).mono ?_
    rintro e w4 ⟨rfl, hn4⟩
    obtain ⟨f0, f1, f2, f3, f4, hz4⟩ := five_in (hn1.trans (hn2.trans (hn3.trans hn4)))
    have HB := Lib.hid (HB1.out.trans (hn2.trans (hn3.trans hn4)))
    clear hn1 hn2 hn3 hn4 c0 c1 c2 c3 c4 d0 d1 d2 d3 d4
    have q1 := fun w => eql_self i w
    go_wp2_with fail
    refine (H3.out _).mono ?_
    rintro e w5 ⟨rfl, hn5⟩
    have HB2 := Lib.hid ((HB.out.alloc _).trans hn5)
    clear hn5
    go_wp2
    go_ret
    exact ⟨rfl, HB2.out⟩

set_option maxHeartbeats 2000000 in
theorem PressGets_yes (x : Int) (hx : 0 ≤ x) (hx' : x < 65536) (w : World) (hb : rGetB x = true) :
    Calls Try.prog 4 #[.int .u16 x] w fun e w' => e = .returned (.bool true) ∧ Nx w w' := by
  obtain ⟨v1, v2⟩ := exp_imm x
  obtain ⟨p1, p2⟩ := get_back x hx hx' hb
  have hg : rGetV x = .tuple #[.string (B (dgS x)), insV (expI x), .bool true] := by unfold rGetV; rw [hb]; rfl
  have hg2 : getV x = .tuple #[.string (B (dgS x)), insV (expI x), .bool true] := (getV_ref x hx hx').trans hg
  generalize expI x = i at *
  generalize dgS x = s at *
  have H1 := Lib.hid (fun w => pGet_v x (B s) i true w hx hx' hg2)
  have H2 := Lib.hid (fun w => rGet_v x (B s) i true w hx hx' hg)
  have H3 := Lib.hid (fun w => pPut_v (B s) i.op i.rd i.rs1 i.rs2 i.imm x true w v1 v2 p1 p2)
  clear p1 p2 hg hg2 hb
  go_enter Try.func4, Try.ntmps4
  go_wp2_with fail
  refine (awaken_any _).mono ?_
  rintro e w1 ⟨rfl, hn1⟩
  go_wp2_with fail
  refine (H1.out _).mono ?_
  rintro e w2 ⟨rfl, hn2⟩
  go_wp2_with fail
  refine (H2.out _).mono ?_
  rintro e w3 ⟨rfl, hn3⟩
  obtain ⟨c0, c1, c2, c3, c4, hz⟩ := five_in hn3
  have HB := Lib.hid (hn1.trans (hn2.trans (((Nx.refl w2).alloc _).trans hn3)))
  clear hn1 hn2 hn3
  have q1 := fun w => eql_self i w
  have q2 := fun w => neq_self i w
  go_wp2_with fail
  refine (H3.out _).mono ?_
  rintro e w4 ⟨rfl, hn4⟩
  have HB2 := Lib.hid ((HB.out.alloc _).trans hn4)
  clear hn4
  go_wp2
  go_ret
  exact ⟨rfl, HB2.out⟩

set_option maxHeartbeats 2000000 in
theorem PressGets_no (x : Int) (hx : 0 ≤ x) (hx' : x < 65536) (w : World) (hb : rGetB x = false) :
    Calls Try.prog 4 #[.int .u16 x] w fun e w' => e = .returned (.bool true) ∧ Nx w w' := by
  have hg : rGetV x = .tuple #[.string (B []), insV none5, .bool false] := by unfold rGetV; rw [hb]; rfl
  have hg2 : getV x = .tuple #[.string (B []), insV none5, .bool false] := (getV_ref x hx hx').trans hg
  have H1 := Lib.hid (fun w => pGet_v x (B []) none5 false w hx hx' hg2)
  have H2 := Lib.hid (fun w => rGet_v x (B []) none5 false w hx hx' hg)
  have H3 := Lib.hid (fun w => pPut_v (B []) 0 0 0 0 0 0 false w (by omega) (by omega) (put_no _ _ _ _ _ _ (fitS_nil _ _ _ _ _)).1 (fitS_nil _ _ _ _ _))
  clear hg hg2 hb
  go_enter Try.func4, Try.ntmps4
  go_wp2_with fail
  refine (awaken_any _).mono ?_
  rintro e w1 ⟨rfl, hn1⟩
  go_wp2_with fail
  refine (H1.out _).mono ?_
  rintro e w2 ⟨rfl, hn2⟩
  go_wp2_with fail
  refine (H2.out _).mono ?_
  rintro e w3 ⟨rfl, hn3⟩
  obtain ⟨c0, c1, c2, c3, c4, hz⟩ := five_in hn3
  have HB := Lib.hid (hn1.trans (hn2.trans (((Nx.refl w2).alloc _).trans hn3)))
  clear hn1 hn2 hn3
  have q2 := fun w => neq_self none5 w
  dsimp only [none5] at *
  go_wp2_with fail
  refine (H3.out _).mono ?_
  rintro e w4 ⟨rfl, hn4⟩
  have HB2 := Lib.hid ((HB.out.alloc _).trans hn4)
  clear hn4
  go_wp2
  go_ret
  exact ⟨rfl, HB2.out⟩

theorem PressGets_walk (x : Int) (w0 : (Lit.int .u16 x).wf = true) (w : World) :
    Calls Try.prog 4 #[.int .u16 x] w fun e w' => e = .returned (.bool true) ∧ Nx w w' := by
  obtain ⟨hx, hx1⟩ := bounds_u16 w0
  cases hb : rGetB x
  · exact PressGets_no x hx (by omega) w hb
  · exact PressGets_yes x hx (by omega) w hb

theorem ins_eq (i i' : In5) (h : (i.op == i'.op && i.rd == i'.rd && i.rs1 == i'.rs1 && i.rs2 == i'.rs2 && i.imm == i'.imm) = true) : i = i' := by
  cases i; cases i'
  simp only [Bool.and_eq_true, beq_iff_eq] at h
  obtain ⟨⟨⟨⟨h1, h2⟩, h3⟩, h4⟩, h5⟩ := h
  subst h1 h2 h3 h4 h5
  rfl

theorem eql_b (i i' : In5) (b : Bool) (w : World) (h : (i.op == i'.op && i.rd == i'.rd && i.rs1 == i'.rs1 && i.rs2 == i'.rs2 && i.imm == i'.imm) = b) :
    (binOp .eql 23 (.agg #[.int .i64 i.op, .int .i64 i.rd, .int .i64 i.rs1, .int .i64 i.rs2, .int .i32 i.imm]) (.agg #[.int .i64 i'.op, .int .i64 i'.rd, .int .i64 i'.rs1, .int .i64 i'.rs2, .int .i32 i'.imm])).run Try.prog w = .ok (.bool b) w := by
  rw [eql_ins, h]

theorem five_in2 {w w2 : World} {T : TypeId} {o : Obj} {a b c d e : Value} (h : Nx ((w.alloc o).alloc (.cells #[a, b, c, d, e] T)) w2) :
    w2.cell? ⟨w.heap.size + 1, 0, none⟩ = some a ∧ w2.cell? ⟨w.heap.size + 1, 1, none⟩ = some b ∧ w2.cell? ⟨w.heap.size + 1, 2, none⟩ = some c ∧ w2.cell? ⟨w.heap.size + 1, 3, none⟩ = some d ∧ w2.cell? ⟨w.heap.size + 1, 4, none⟩ = some e ∧ w.heap.size + 1 < w2.heap.size := by
  have h' := five_in h
  rw [show (w.alloc o).heap.size = w.heap.size + 1 by simp] at h'
  exact h'

/-- What the walk of PressApart asks: the two parcels, and what is asked of them. -/
theorem apart_go (nm nm' : ByteArray) (i i' : In5) (x y : Int) (f f' c d : Bool) (vi : -2147483648 ≤ i.imm ∧ i.imm ≤ 2147483647) (vi' : -2147483648 ≤ i'.imm ∧ i'.imm ≤ 2147483647) (ws : nm.size ≤ maxLen) (ws' : nm'.size ≤ maxLen) (hl : ¬ 50 < nm.size) (hl' : ¬ 50 < nm'.size)
    (h1 : PutB nm i.op i.rd i.rs1 i.rs2 i.imm = x) (h2 : fitS nm i.op i.rd i.rs1 i.rs2 i.imm = f) (h1' : PutB nm' i'.op i'.rd i'.rs1 i'.rs2 i'.imm = y) (h2' : fitS nm' i'.op i'.rd i'.rs1 i'.rs2 i'.imm = f')
    (hc : (i.op == i'.op && i.rd == i'.rd && i.rs1 == i'.rs1 && i.rs2 == i'.rs2 && i.imm == i'.imm) = c) (hd : (nm.toList == nm'.toList) = d) (b1 : 0 ≤ x) (b2 : x < 65536) (b3 : 0 ≤ y) (b4 : y < 65536)
    (hq : f = true → (x % 4 == 3) = false) (hx : f = true → f' = true → (c = false ∨ d = false) → (x == y) = false) (w : World) :
    Calls Try.prog 5 #[.string nm, .agg #[.int .i64 i.op, .int .i64 i.rd, .int .i64 i.rs1, .int .i64 i.rs2, .int .i32 i.imm], .string nm', .agg #[.int .i64 i'.op, .int .i64 i'.rd, .int .i64 i'.rs1, .int .i64 i'.rs2, .int .i32 i'.imm]] w fun e w' => e = .returned (.bool true) ∧ Nx w w' := by
  obtain ⟨v1, v2⟩ := vi
  obtain ⟨v1', v2'⟩ := vi'
  have H1 := Lib.hid (fun w => pPut_v nm i.op i.rd i.rs1 i.rs2 i.imm x f w v1 v2 h1 h2)
  have H2 := Lib.hid (fun w => pPut_v nm' i'.op i'.rd i'.rs1 i'.rs2 i'.imm y f' w v1' v2' h1' h2')
  have q1 := fun w => eql_b i i' c w hc
  clear h1 h2 h1' h2' hc
  have HQ := Lib.hid hq
  have HX := Lib.hid hx
  clear hq hx
  cases f
  · clear hd HQ HX
    go_enter Try.func5, Try.ntmps5
    go_wp2_with fail
    refine (awaken_any _).mono ?_
    rintro e w1 ⟨rfl, hn1⟩
    obtain ⟨c0, c1, c2, c3, c4, hz⟩ := five_in (((Nx.refl _).alloc _).trans hn1)
    obtain ⟨c0', c1', c2', c3', c4', hz'⟩ := five_in2 hn1
    go_wp2_with fail
    refine (H1.out _).mono ?_
    rintro e w2 ⟨rfl, hn2⟩
    obtain ⟨d0, d1, d2, d3, d4, hz2⟩ := five_in (((Nx.refl _).alloc _).trans (hn1.trans hn2))
    obtain ⟨d0', d1', d2', d3', d4', hz2'⟩ := five_in2 (hn1.trans hn2)
    go_wp2_with fail
    refine (H2.out _).mono ?_
    rintro e w3 ⟨rfl, hn3⟩
    have HB := Lib.hid ((((Nx.refl w).alloc _).alloc _).trans (hn1.trans (hn2.trans hn3)))
    clear hn1 hn2 hn3
    go_wp2
    go_ret
    exact ⟨rfl, HB.out⟩
  · have hq := HQ.out rfl
    cases f'
    · clear hd HQ HX
      go_enter Try.func5, Try.ntmps5
      go_wp2_with fail
      refine (awaken_any _).mono ?_
      rintro e w1 ⟨rfl, hn1⟩
      obtain ⟨c0, c1, c2, c3, c4, hz⟩ := five_in (((Nx.refl _).alloc _).trans hn1)
      obtain ⟨c0', c1', c2', c3', c4', hz'⟩ := five_in2 hn1
      go_wp2_with fail
      refine (H1.out _).mono ?_
      rintro e w2 ⟨rfl, hn2⟩
      obtain ⟨d0, d1, d2, d3, d4, hz2⟩ := five_in (((Nx.refl _).alloc _).trans (hn1.trans hn2))
      obtain ⟨d0', d1', d2', d3', d4', hz2'⟩ := five_in2 (hn1.trans hn2)
      go_wp2_with fail
      refine (H2.out _).mono ?_
      rintro e w3 ⟨rfl, hn3⟩
      have HB := Lib.hid ((((Nx.refl w).alloc _).alloc _).trans (hn1.trans (hn2.trans hn3)))
      clear hn1 hn2 hn3
      go_wp2
      go_ret
      exact ⟨rfl, HB.out⟩
    · cases c <;> cases d
      all_goals
        first | (have hx := HX.out rfl rfl (Or.inl rfl)) | (have hx := HX.out rfl rfl (Or.inr rfl)) | skip
        clear HX HQ
        go_enter Try.func5, Try.ntmps5
        go_wp2_with fail
        refine (awaken_any _).mono ?_
        rintro e w1 ⟨rfl, hn1⟩
        obtain ⟨c0, c1, c2, c3, c4, hz⟩ := five_in (((Nx.refl _).alloc _).trans hn1)
        obtain ⟨c0', c1', c2', c3', c4', hz'⟩ := five_in2 hn1
        go_wp2_with fail
        refine (H1.out _).mono ?_
        rintro e w2 ⟨rfl, hn2⟩
        obtain ⟨d0, d1, d2, d3, d4, hz2⟩ := five_in (((Nx.refl _).alloc _).trans (hn1.trans hn2))
        obtain ⟨d0', d1', d2', d3', d4', hz2'⟩ := five_in2 (hn1.trans hn2)
        go_wp2_with fail
        refine (H2.out _).mono ?_
        rintro e w3 ⟨rfl, hn3⟩
        obtain ⟨e0, e1, e2, e3, e4, hz3⟩ := five_in (((Nx.refl _).alloc _).trans (hn1.trans (hn2.trans hn3)))
        obtain ⟨e0', e1', e2', e3', e4', hz3'⟩ := five_in2 (hn1.trans (hn2.trans hn3))
        have HB := Lib.hid ((((Nx.refl w).alloc _).alloc _).trans (hn1.trans (hn2.trans hn3)))
        clear hn1 hn2 hn3
        go_wp2
        go_ret
        exact ⟨by first | rfl | exact ret_bool (show (x != y) = true by simp [bne, hx]), HB.out⟩

set_option maxHeartbeats 1000000 in
theorem PressApart_long (nm nm' : ByteArray) (i i' : In5) (ws : nm.size ≤ maxLen) (ws' : nm'.size ≤ maxLen) (w : World) (hl : 50 < nm.size ∨ 50 < nm'.size) :
    Calls Try.prog 5 #[.string nm, .agg #[.int .i64 i.op, .int .i64 i.rd, .int .i64 i.rs1, .int .i64 i.rs2, .int .i32 i.imm], .string nm', .agg #[.int .i64 i'.op, .int .i64 i'.rd, .int .i64 i'.rs1, .int .i64 i'.rs2, .int .i32 i'.imm]] w fun e w' => e = .returned (.bool true) ∧ Nx w w' := by
  by_cases h1 : 50 < nm.size
  · go_enter Try.func5, Try.ntmps5
    go_wp2_with fail
    refine (awaken_any _).mono ?_
    rintro e w1 ⟨rfl, hn1⟩
    have HB1 := Lib.hid ((((Nx.refl w).alloc _).alloc _).trans hn1)
    clear hn1
    go_wp2
    go_ret
    exact ⟨rfl, HB1.out⟩
  · have h2 : 50 < nm'.size := by rcases hl with h | h <;> first | exact absurd h h1 | exact h
    clear hl
    go_enter Try.func5, Try.ntmps5
    go_wp2_with fail
    refine (awaken_any _).mono ?_
    rintro e w1 ⟨rfl, hn1⟩
    have HB1 := Lib.hid ((((Nx.refl w).alloc _).alloc _).trans hn1)
    clear hn1
    go_wp2
    go_ret
    exact ⟨rfl, HB1.out⟩

theorem PressApart_walk (nm : ByteArray) (i : In5) (nm' : ByteArray) (i' : In5) (ws : nm.size ≤ maxLen) (wi : -2147483648 ≤ i.imm ∧ i.imm ≤ 2147483647) (ws' : nm'.size ≤ maxLen) (wi' : -2147483648 ≤ i'.imm ∧ i'.imm ≤ 2147483647) (w : World) :
    Calls Try.prog 5 #[.string nm, .agg #[.int .i64 i.op, .int .i64 i.rd, .int .i64 i.rs1, .int .i64 i.rs2, .int .i32 i.imm], .string nm', .agg #[.int .i64 i'.op, .int .i64 i'.rd, .int .i64 i'.rs1, .int .i64 i'.rs2, .int .i32 i'.imm]] w fun e w' => e = .returned (.bool true) ∧ Nx w w' := by
  by_cases hl : 50 < nm.size ∨ 50 < nm'.size
  · exact PressApart_long nm nm' i i' ws ws' w hl
  · obtain ⟨b1, b2⟩ := put_bd nm i.op i.rd i.rs1 i.rs2 i.imm
    obtain ⟨b3, b4⟩ := put_bd nm' i'.op i'.rd i'.rs1 i'.rs2 i'.imm
    refine apart_go nm nm' i i' _ _ _ _ _ _ wi wi' ws ws' (fun h => hl (Or.inl h)) (fun h => hl (Or.inr h)) rfl rfl rfl rfl rfl rfl b1 b2 b3 b4 (fun hf => put_quarter nm i hf) (fun hf hf' hcd => ?_) w
    apply Bool.eq_false_iff.2
    intro he
    obtain ⟨e1, e2⟩ := put_one nm nm' i i' hf hf' (by simpa using he)
    subst e1 e2
    rcases hcd with h | h <;> simp at h

end Go.Proofs.Ytppnmaklggkogaa

/- An instruction that is handed over by value: its parts. -/
namespace Go.Proofs.Ytppnmaklggkogaa
open Go.ChangeShapes Go.WideShapes Go.ChangeAt Go.RowKit Go.Joins
set_option linter.unusedVariables false
set_option linter.unusedSimpArgs false

theorem one_int : Try.prog.cellsOf 3 = 1 := by kernel_rfl

theorem one_i32 : Try.prog.cellsOf 21 = 1 := by kernel_rfl

theorem five_ins : Try.prog.cellsOf 23 = 5 := by kernel_rfl

theorem open_ins {H : Type} {enc : TypeId × Value → H} {W : World} {base b0 : Nat} {r : Reach} {spare : Nat → Bool} {held : Bool} {v : Value} {d : DataW H} {p : List MemPlace}
    (hv : Value.okWide Try.prog W r b0 23 v) (h : DataW.Trod enc Try.prog W base spare held 23 v d p) :
    ∃ i : In5, v = .agg #[.int .i64 i.op, .int .i64 i.rd, .int .i64 i.rs1, .int .i64 i.rs2, .int .i32 i.imm] ∧ -2147483648 ≤ i.imm ∧ i.imm ≤ 2147483647 := by
  obtain ⟨cs, rfl, hsz⟩ := okWide_struct Try.underlying23 hv
  obtain ⟨l⟩ := cs
  match l, hsz.trans five_ins with
  | [c0, c1, c2, c3, c4], _ =>
    obtain ⟨fuel, hf⟩ := h
    obtain ⟨xs, n, _, hx, _, hlen, hg⟩ := DataW.trod_struct Try.underlying23 hf
    match xs, hlen with
    | [y0, y1, y2, y3, y4], _ =>
      have g0 := hg 0 _ rfl
      have g1 := hg 1 _ rfl
      have g2 := hg 2 _ rfl
      have g3 := hg 3 _ rfl
      have g4 := hg 4 _ rfl
      simp [Value.cells, one_int, one_i32] at g0 g1 g2 g3 g4
      obtain ⟨a0, e0, _, _⟩ := DataW.trod_int Try.underlying3 g0
      obtain ⟨a1, e1, _, _⟩ := DataW.trod_int Try.underlying3 g1
      obtain ⟨a2, e2, _, _⟩ := DataW.trod_int Try.underlying3 g2
      obtain ⟨a3, e3, _, _⟩ := DataW.trod_int Try.underlying3 g3
      obtain ⟨a4, e4, _, w4⟩ := DataW.trod_int Try.underlying21 g4
      simp only [List.cons.injEq, and_true] at e0 e1 e2 e3 e4
      subst e0 e1 e2 e3 e4
      obtain ⟨b1, b2⟩ := bounds_i32 w4
      exact ⟨⟨a0, a1, a2, a3, a4⟩, rfl, b1, b2⟩

end Go.Proofs.Ytppnmaklggkogaa

/- The walk of the law PressFits. -/
namespace Go.Proofs.Ytppnmaklggkogaa
open Go.RowKit
set_option linter.unusedVariables false
set_option linter.unusedSimpArgs false

theorem rShort_v (op rd rs1 rs2 imm : Int) (l : List UInt8) (w : World) (hv : -2147483648 ≤ imm) (hv' : imm ≤ 2147483647) (h : shortN op rd rs1 rs2 imm = l) :
    Calls Try.prog 19 #[.agg #[.int .i64 op, .int .i64 rd, .int .i64 rs1, .int .i64 rs2, .int .i32 imm]] w fun e w' => e = .returned (.string (B l)) ∧ Nx w w' := by
  have h' := rShort_any op rd rs1 rs2 imm w hv hv'
  rw [short_ref, h] at h'
  exact h'

set_option maxHeartbeats 1000000 in
theorem PressFits_long (nm : ByteArray) (i : In5) (ws : nm.size ≤ maxLen) (w : World) (hl : 50 < nm.size) :
    Calls Try.prog 6 #[.string nm, .agg #[.int .i64 i.op, .int .i64 i.rd, .int .i64 i.rs1, .int .i64 i.rs2, .int .i32 i.imm]] w fun e w' => e = .returned (.bool true) ∧ Nx w w' := by
  go_enter Try.func6, Try.ntmps6
  go_wp2_with fail
  refine (awaken_any _).mono ?_
  rintro e w1 ⟨rfl, hn1⟩
  have HB1 := Lib.hid (((Nx.refl w).alloc _).trans hn1)
  clear hn1
  go_wp2
  go_ret
  exact ⟨rfl, HB1.out⟩

set_option maxHeartbeats 4000000 in
theorem PressFits_short (nm : ByteArray) (i : In5) (ws : nm.size ≤ maxLen) (wi : -2147483648 ≤ i.imm ∧ i.imm ≤ 2147483647) (w : World) (hl : ¬ 50 < nm.size) :
    Calls Try.prog 6 #[.string nm, .agg #[.int .i64 i.op, .int .i64 i.rd, .int .i64 i.rs1, .int .i64 i.rs2, .int .i32 i.imm]] w fun e w' => e = .returned (.bool true) ∧ Nx w w' := by
  obtain ⟨v1, v2⟩ := wi
  have HP := Lib.hid (fun s b w h => pFits_v s i.op i.rd i.rs1 i.rs2 i.imm b w v1 v2 h)
  have HR := Lib.hid (fun s b w h => rFits_v s i.op i.rd i.rs1 i.rs2 i.imm b w v1 v2 h)
  have HS := Lib.hid (fun w => pShort_v i.op i.rd i.rs1 i.rs2 i.imm _ w v1 v2 rfl)
  have HS' := Lib.hid (fun w => rShort_v i.op i.rd i.rs1 i.rs2 i.imm _ w v1 v2 rfl)
  generalize shortN i.op i.rd i.rs1 i.rs2 i.imm = sh at HS HS'
  go_enter Try.func6, Try.ntmps6
  go_wp2_with fail
  refine (awaken_any _).mono ?_
  rintro e w1 ⟨rfl, hn1⟩
  go_wp2_with fail
  refine (pNames_any _).mono ?_
  rintro e w2 ⟨g1, cap, rfl, hS1, hn2⟩
  go_wp2_with fail
  refine (rNames_some _).mono ?_
  rintro e w3 ⟨g2, rfl, hS2, hn3⟩
  have hlen : shB.length = 27 := rfl
  rw [hlen]
  have HS1 := Lib.hid (hS1.keep hn3)
  have HS2 := Lib.hid hS2
  obtain ⟨c0, c1, c2, c3, c4, hz⟩ := five_in (hn1.trans (hn2.trans hn3))
  have HC := Lib.hid (And.intro c0 (And.intro c1 (And.intro c2 (And.intro c3 c4))))
  have HN1 := Lib.hid (((Nx.refl w).alloc _).trans (hn1.trans (hn2.trans hn3)))
  clear hS1 hS2 hn1 hn2 hn3 c0 c1 c2 c3 c4 hlen
  go_wp2
  go_loopg [7] 27 (fun gg i wy => ∃ k : Nat, k + gg = 27 ∧ i = .int .i64 k ∧ Nx w3 wy)
  case atStart => exact ⟨0, by omega, rfl, Nx.refl _⟩
  case round =>
    obtain ⟨k, hk, rfl, hnx⟩ := hrel
    have HNX := Lib.hid hnx
    clear hnx
    have c0 := HNX.out.cell HC.out.1
    have c1 := HNX.out.cell HC.out.2.1
    have c2 := HNX.out.cell HC.out.2.2.1
    have c3 := HNX.out.cell HC.out.2.2.2.1
    have c4 := HNX.out.cell HC.out.2.2.2.2
    have zw : w.heap.size < wr.heap.size := block_lt c0
    cases gk with
    | zero =>
      obtain rfl : k = 27 := by omega
      cases hf : fitS nm i.op i.rd i.rs1 i.rs2 i.imm
      all_goals
        have C1 := Lib.hid (fun w => HP.out nm _ w hf)
        have C2 := Lib.hid (fun w => HR.out nm _ w hf)
        clear hf
        go_wp2
        (refine wp_region_nx 14 (by kernel_rfl) (by kernel_rfl) ?_; simp only [List.take_succ_cons, List.take_zero, List.drop_succ_cons, List.drop_zero]; (repeat (refine wpQuiet_step (fun K hK => ?_); go_simp; first | (refine hK _ ?_; clear hK K) | (apply Exists.intro; refine ⟨fun w' hw' => ?_, hK _ ?_⟩; (first | (with_reducible rfl) | (go_at_call 17; with_reducible exact (C1.out _).mono fun _ _ h => ⟨h.1, hw'.trans h.2⟩) | (go_at_call 11; with_reducible exact (C2.out _).mono fun _ _ h => ⟨h.1, hw'.trans h.2⟩) | (go_at_call 18; with_reducible exact (HS.out _).mono fun _ _ h => ⟨h.1, hw'.trans h.2⟩) | (go_at_call 19; with_reducible exact (HS'.out _).mono fun _ _ h => ⟨h.1, hw'.trans h.2⟩) | (obtain ⟨hc, hf⟩ := nx_cells hw'; go_simp; with_reducible rfl) | (obtain ⟨hc, hf⟩ := nx_cells hw'; go_simp; rfl)); clear hK K))); refine wpQuiet_nil ?_; intro w4 hn4)
        have HN4 := Lib.hid hn4
        clear hn4
        go_wp2
        go_ret
        exact ⟨rfl, HN1.out.trans (HNX.out.trans HN4.out)⟩
    | succ gg =>
      have hk27 : k < 27 := by omega
      have hkI : (k : Int) < 27 := by omega
      have hkJ : ¬ (k : Int) < 0 := by omega
      have hk0 : 0 ≤ (k : Int) := by omega
      have hkd : decide (27 ≤ (k : Int)) = false := by simpa using hkI
      obtain ⟨s, hs⟩ : ∃ s, shB[k]? = some s := ⟨_, List.getElem?_eq_getElem (show k < shB.length from hk27)⟩
      have hc1 := HNX.out.cell (HS1.out k s hs)
      have hc2 := HNX.out.cell (HS2.out k s hs)
      have zg1 : g1 < wr.heap.size := block_lt hc1
      have zg2 : g2 < wr.heap.size := block_lt hc2
      clear hs
      cases hf : fitS (B s) i.op i.rd i.rs1 i.rs2 i.imm
      all_goals
        have C1 := Lib.hid (fun w => HP.out (B s) _ w hf)
        have C2 := Lib.hid (fun w => HR.out (B s) _ w hf)
        clear hf
        go_wp2
        (refine wp_region_nx 29 (by kernel_rfl) (by kernel_rfl) ?_; simp only [List.take_succ_cons, List.take_zero, List.drop_succ_cons, List.drop_zero]; (repeat (refine wpQuiet_step (fun K hK => ?_); go_simp; first | (refine hK _ ?_; clear hK K) | (apply Exists.intro; refine ⟨fun w' hw' => ?_, hK _ ?_⟩; (first | (with_reducible rfl) | (go_at_call 17; with_reducible exact (C1.out _).mono fun _ _ h => ⟨h.1, hw'.trans h.2⟩) | (go_at_call 11; with_reducible exact (C2.out _).mono fun _ _ h => ⟨h.1, hw'.trans h.2⟩) | (obtain ⟨hc, hf⟩ := nx_cells hw'; go_simp; with_reducible rfl) | (obtain ⟨hc, hf⟩ := nx_cells hw'; go_simp; rfl)); clear hK K))); refine wpQuiet_nil ?_; intro w4 hn4)
        have HN4 := Lib.hid hn4
        clear hn4
        go_wp2
        go_roundg gg
        case measure => omega
        case rel => exact ⟨k + 1, by omega, by first | rfl | simp, HNX.out.trans HN4.out⟩

theorem PressFits_walk (nm : ByteArray) (i : In5) (ws : nm.size ≤ maxLen) (wi : -2147483648 ≤ i.imm ∧ i.imm ≤ 2147483647) (w : World) :
    Calls Try.prog 6 #[.string nm, .agg #[.int .i64 i.op, .int .i64 i.rd, .int .i64 i.rs1, .int .i64 i.rs2, .int .i32 i.imm]] w fun e w' => e = .returned (.bool true) ∧ Nx w w' := by
  by_cases hl : 50 < nm.size
  · exact PressFits_long nm i ws w hl
  · exact PressFits_short nm i ws wi w hl

end Go.Proofs.Ytppnmaklggkogaa

