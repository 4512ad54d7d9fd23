/- Contract of typecaseref17.Letters, at the names of operations and of shorts. -/
import Derived.Test.YtdgmdkkockbkjaaDoorShwf
import Derived.Test.YtdgmdkkockbkjaaDoorRefcb
namespace Go.Proofs.YtdgmdkkockbkjaaDoor
open Go.RowKit
set_option linter.unusedVariables false
set_option linter.unusedSimpArgs false

/-- What Letters says of so many operands. -/
def lqP (L : List UInt8) (n : Nat) : List UInt8 := if L.length = n then L else [63]

/-- The list with which it begins. -/
def lqL : List (List UInt8) := [[], [100, 117], [100, 106], [115, 116, 106], [100, 109], [116, 109], [100, 115, 105], [100, 115, 105], [100, 115, 116], []]

theorem lqL_at (f : Nat) (hf : f < 10) : lqL[f]? = some (letF f) := by
  rcases (by omega : f = 0 ∨ f = 1 ∨ f = 2 ∨ f = 3 ∨ f = 4 ∨ f = 5 ∨ f = 6 ∨ f = 7 ∨ f = 8 ∨ f = 9) with rfl | rfl | rfl | rfl | rfl | rfl | rfl | rfl | rfl | rfl <;> rfl

theorem letF_len (f : Int) : (letF f).length ≤ 3 := by
  unfold letF
  repeat' split
  all_goals decide

def RetLq (L : List UInt8) (n : Nat) (w : World) (e : Ending) (w' : World) : Prop := e = .returned (.tuple #[.string (B (lqP L n)), .bool true]) ∧ Nx w w'

theorem ret_lq_yes {L : List UInt8} {n : Nat} {w w' : World} (h : L.length = n) (hn : Nx w w') : RetLq L n w (.returned (.tuple #[.string (B L), .bool true])) w' := by
  refine ⟨?_, hn⟩; unfold lqP; rw [if_pos h]

theorem ret_lq_no {L : List UInt8} {n : Nat} {w w' : World} (h : ¬ L.length = n) (hn : Nx w w') : RetLq L n w (.returned (.tuple #[.string (B [63]), .bool true])) w' := by
  refine ⟨?_, hn⟩; unfold lqP; rw [if_neg h]

theorem in17n_any (s : List UInt8) (v : Value) (l : List (List UInt8)) (hl : l.length ≤ 1000) (b : Bool) (hb : inB s l = b) (w : World) (hR : RowS w v l) : Calls Tryd.prog 36 #[.string (B s), v] w fun e w' => e = .returned (.bool b) ∧ Nx w w' :=
  (in17_any s v l hl w hR).mono fun e w' ⟨h, hw⟩ => ⟨by rw [h, hb], Nx.of_eq hw⟩

set_option maxHeartbeats 4000000 in
theorem letters17_op (k : Nat) (s : List UInt8) (hk1 : 1 ≤ k) (hk2 : k ≤ 48) (hs : nmB.getD k [] = s) (n : Nat) (hg : n = 1 → (s == [106, 97, 108]) = false ∧ (s == [106, 97, 108, 114]) = false) (w : World) :
    Calls Tryd.prog 20 #[.string (B s), .int .i64 n] w (RetLq (letF (formN k)) n w) := by
  have ho := op_found s k hk1 hk2 hs
  have CO := Lib.hid (fun w => op17_any s w)
  rw [ho] at CO
  clear ho hs
  have dk : decide ((0 : Int) < k) = true := decide_eq_true (by omega)
  obtain ⟨f, hf, hf10⟩ : ∃ f : Nat, formN k = f ∧ f < 10 := by
    rcases formN_range k with h | h | h | h | h | h | h | h | h | h
    · exact ⟨0, h, by decide⟩
    · exact ⟨1, h, by decide⟩
    · exact ⟨2, h, by decide⟩
    · exact ⟨3, h, by decide⟩
    · exact ⟨4, h, by decide⟩
    · exact ⟨5, h, by decide⟩
    · exact ⟨6, h, by decide⟩
    · exact ⟨7, h, by decide⟩
    · exact ⟨8, h, by decide⟩
    · exact ⟨9, h, by decide⟩
  have CF := Lib.hid (fun w => form_any k w)
  rw [hf] at CF ⊢
  have hL := lqL_at f hf10
  have h3 := letF_len f
  obtain ⟨L, hLL⟩ : ∃ L, letF f = L := ⟨_, rfl⟩
  rw [hLL] at hL h3 ⊢
  have HS := Lib.hid ((Strs.new w lqL 9) f L hL)
  have hfI : (f : Int) < 10 := by omega
  have go : ∀ bj br : Bool, ((s == [106, 97, 108]) = bj ∧ (s == [106, 97, 108, 114]) = br ∧ (((n : Int) == 1) = false ∨ (bj = false ∧ br = false))) → Calls Tryd.prog 20 #[.string (B s), .int .i64 n] w (RetLq L n w) := by
    intro bj br hb
    clear hL hLL hf hg
    have walk : ∀ _ : (s == [106, 97, 108]) = bj ∧ (s == [106, 97, 108, 114]) = br ∧ (((n : Int) == 1) = false ∨ (bj = false ∧ br = false)), True := fun _ => trivial
    rcases hb with ⟨b1, b2, h | ⟨rfl, rfl⟩⟩
    · cases bj <;> cases br
      all_goals
        go_enter Tryd.func20, Tryd.ntmps20
        go_wp2_with fail
        refine (CO.out _).mono ?_
        rintro e w2 ⟨rfl, hn2⟩
        have c2 := hn2.cell HS.out
        have hz2 := hn2.size
        have hz2' : w.heap.size < w2.heap.size := by rw [World.size_alloc] at hz2; omega
        have H2 := Lib.hid (((Nx.refl w).alloc _).trans hn2)
        clear hn2 hz2
        go_wp2_with fail
        refine (CO.out _).mono ?_
        rintro e w3 ⟨rfl, hn3⟩
        have c3 := hn3.cell c2
        have H3 := Lib.hid (H2.out.trans hn3)
        have hz3' := Nat.lt_of_lt_of_le hz2' hn3.size
        clear hn3 c2
        go_wp2_with fail
        refine (CF.out _).mono ?_
        rintro e w4 ⟨rfl, hn4⟩
        have c4 := hn4.cell c3
        have H4 := Lib.hid (H3.out.trans hn4)
        have hz4' := Nat.lt_of_lt_of_le hz3' hn4.size
        clear hn4 c3
        by_cases hn : L.length = n
        · have en : ((L.length : Int) == n) = true := by rw [beq_iff_eq]; omega
          go_wp2
          go_ret2
          exact ret_lq_yes hn H4.out
        · have en : ((L.length : Int) == n) = false := by rw [beq_eq_false_iff_ne]; omega
          go_wp2
          go_ret2
          exact ret_lq_no hn H4.out
    · go_enter Tryd.func20, Tryd.ntmps20
      go_wp2_with fail
      refine (CO.out _).mono ?_
      rintro e w2 ⟨rfl, hn2⟩
      have c2 := hn2.cell HS.out
      have hz2 := hn2.size
      have hz2' : w.heap.size < w2.heap.size := by rw [World.size_alloc] at hz2; omega
      have H2 := Lib.hid (((Nx.refl w).alloc _).trans hn2)
      clear hn2 hz2
      go_wp2_with fail
      refine (CO.out _).mono ?_
      rintro e w3 ⟨rfl, hn3⟩
      have c3 := hn3.cell c2
      have H3 := Lib.hid (H2.out.trans hn3)
      have hz3' := Nat.lt_of_lt_of_le hz2' hn3.size
      clear hn3 c2
      go_wp2_with fail
      refine (CF.out _).mono ?_
      rintro e w4 ⟨rfl, hn4⟩
      have c4 := hn4.cell c3
      have H4 := Lib.hid (H3.out.trans hn4)
      have hz4' := Nat.lt_of_lt_of_le hz3' hn4.size
      clear hn4 c3
      by_cases hn : L.length = n
      · have en : ((L.length : Int) == n) = true := by rw [beq_iff_eq]; omega
        go_wp2
        go_ret2
        exact ret_lq_yes hn H4.out
      · have en : ((L.length : Int) == n) = false := by rw [beq_eq_false_iff_ne]; omega
        go_wp2
        go_ret2
        exact ret_lq_no hn H4.out
  by_cases h1 : n = 1
  · obtain ⟨a, b⟩ := hg h1
    exact go false false ⟨a, b, Or.inr ⟨rfl, rfl⟩⟩
  · exact go _ _ ⟨rfl, rfl, Or.inl (by rw [beq_eq_false_iff_ne]; omega)⟩

set_option maxHeartbeats 4000000 in
theorem letters17_s0 (s : List UInt8) (n : Nat) (j1 : (s == [106, 97, 108]) = false) (j2 : (s == [106, 97, 108, 114]) = false) (ho : opP s = 0) (b0 : inB s [[99, 46, 97, 100, 100, 105, 52, 115, 112, 110]] = true) (w : World) :
    Calls Tryd.prog 20 #[.string (B s), .int .i64 n] w (RetLq [100, 115, 105] n w) := by
  have CO := Lib.hid (fun w => op17_any s w)
  rw [ho] at CO
  clear ho
  have B0 := Lib.hid b0
  clear b0
  go_enter Tryd.func20, Tryd.ntmps20
  go_wp2_with fail
  refine (CO.out _).mono ?_
  rintro e w0 ⟨rfl, hn0⟩
  have H0 := Lib.hid (((Nx.refl w).alloc _).trans hn0)
  clear hn0
  go_wp2_with fail
  refine (in17n_any s _ [[99, 46, 97, 100, 100, 105, 52, 115, 112, 110]] (by decide) _ B0.out _ ⟨_, _, rfl, Or.inr ⟨_, rfl, Strs.new _ [[99, 46, 97, 100, 100, 105, 52, 115, 112, 110]] 9⟩⟩).mono ?_
  rintro e x0 ⟨rfl, hn1⟩
  have H0x := Lib.hid (H0.out.trans (((Nx.refl _).alloc _).trans hn1))
  clear hn1
  by_cases hn : 3 = n
  · have en : ((3 : Int) == n) = true := by rw [beq_iff_eq]; omega
    go_wp2
    go_ret2
    exact ret_lq_yes hn H0x.out
  · have en : ((3 : Int) == n) = false := by rw [beq_eq_false_iff_ne]; omega
    go_wp2
    go_ret2
    exact ret_lq_no hn H0x.out

set_option maxHeartbeats 4000000 in
theorem letters17_s1 (s : List UInt8) (n : Nat) (j1 : (s == [106, 97, 108]) = false) (j2 : (s == [106, 97, 108, 114]) = false) (ho : opP s = 0) (b0 : inB s [[99, 46, 97, 100, 100, 105, 52, 115, 112, 110]] = false) (b1 : inB s [[99, 46, 108, 119], [99, 46, 108, 119, 115, 112]] = true) (w : World) :
    Calls Tryd.prog 20 #[.string (B s), .int .i64 n] w (RetLq [100, 109] n w) := by
  have CO := Lib.hid (fun w => op17_any s w)
  rw [ho] at CO
  clear ho
  have B0 := Lib.hid b0
  clear b0
  have B1 := Lib.hid b1
  clear b1
  go_enter Tryd.func20, Tryd.ntmps20
  go_wp2_with fail
  refine (CO.out _).mono ?_
  rintro e w0 ⟨rfl, hn0⟩
  have H0 := Lib.hid (((Nx.refl w).alloc _).trans hn0)
  clear hn0
  go_wp2_with fail
  refine (in17n_any s _ [[99, 46, 97, 100, 100, 105, 52, 115, 112, 110]] (by decide) _ B0.out _ ⟨_, _, rfl, Or.inr ⟨_, rfl, Strs.new _ [[99, 46, 97, 100, 100, 105, 52, 115, 112, 110]] 9⟩⟩).mono ?_
  rintro e x0 ⟨rfl, hn1⟩
  have H0x := Lib.hid (H0.out.trans (((Nx.refl _).alloc _).trans hn1))
  clear hn1
  go_wp2_with fail
  refine (in17n_any s _ [[99, 46, 108, 119], [99, 46, 108, 119, 115, 112]] (by decide) _ B1.out _ ⟨_, _, rfl, Or.inr ⟨_, rfl, Strs.new _ [[99, 46, 108, 119], [99, 46, 108, 119, 115, 112]] 9⟩⟩).mono ?_
  rintro e x1 ⟨rfl, hn2⟩
  have H1x := Lib.hid (H0x.out.trans (((Nx.refl _).alloc _).trans hn2))
  clear hn2
  by_cases hn : 2 = n
  · have en : ((2 : Int) == n) = true := by rw [beq_iff_eq]; omega
    go_wp2
    go_ret2
    exact ret_lq_yes hn H1x.out
  · have en : ((2 : Int) == n) = false := by rw [beq_eq_false_iff_ne]; omega
    go_wp2
    go_ret2
    exact ret_lq_no hn H1x.out

set_option maxHeartbeats 4000000 in
theorem letters17_s2 (s : List UInt8) (n : Nat) (j1 : (s == [106, 97, 108]) = false) (j2 : (s == [106, 97, 108, 114]) = false) (ho : opP s = 0) (b0 : inB s [[99, 46, 97, 100, 100, 105, 52, 115, 112, 110]] = false) (b1 : inB s [[99, 46, 108, 119], [99, 46, 108, 119, 115, 112]] = false) (b2 : inB s [[99, 46, 115, 119], [99, 46, 115, 119, 115, 112]] = true) (w : World) :
    Calls Tryd.prog 20 #[.string (B s), .int .i64 n] w (RetLq [116, 109] n w) := by
  have CO := Lib.hid (fun w => op17_any s w)
  rw [ho] at CO
  clear ho
  have B0 := Lib.hid b0
  clear b0
  have B1 := Lib.hid b1
  clear b1
  have B2 := Lib.hid b2
  clear b2
  go_enter Tryd.func20, Tryd.ntmps20
  go_wp2_with fail
  refine (CO.out _).mono ?_
  rintro e w0 ⟨rfl, hn0⟩
  have H0 := Lib.hid (((Nx.refl w).alloc _).trans hn0)
  clear hn0
  go_wp2_with fail
  refine (in17n_any s _ [[99, 46, 97, 100, 100, 105, 52, 115, 112, 110]] (by decide) _ B0.out _ ⟨_, _, rfl, Or.inr ⟨_, rfl, Strs.new _ [[99, 46, 97, 100, 100, 105, 52, 115, 112, 110]] 9⟩⟩).mono ?_
  rintro e x0 ⟨rfl, hn1⟩
  have H0x := Lib.hid (H0.out.trans (((Nx.refl _).alloc _).trans hn1))
  clear hn1
  go_wp2_with fail
  refine (in17n_any s _ [[99, 46, 108, 119], [99, 46, 108, 119, 115, 112]] (by decide) _ B1.out _ ⟨_, _, rfl, Or.inr ⟨_, rfl, Strs.new _ [[99, 46, 108, 119], [99, 46, 108, 119, 115, 112]] 9⟩⟩).mono ?_
  rintro e x1 ⟨rfl, hn2⟩
  have H1x := Lib.hid (H0x.out.trans (((Nx.refl _).alloc _).trans hn2))
  clear hn2
  go_wp2_with fail
  refine (in17n_any s _ [[99, 46, 115, 119], [99, 46, 115, 119, 115, 112]] (by decide) _ B2.out _ ⟨_, _, rfl, Or.inr ⟨_, rfl, Strs.new _ [[99, 46, 115, 119], [99, 46, 115, 119, 115, 112]] 9⟩⟩).mono ?_
  rintro e x2 ⟨rfl, hn3⟩
  have H2x := Lib.hid (H1x.out.trans (((Nx.refl _).alloc _).trans hn3))
  clear hn3
  by_cases hn : 2 = n
  · have en : ((2 : Int) == n) = true := by rw [beq_iff_eq]; omega
    go_wp2
    go_ret2
    exact ret_lq_yes hn H2x.out
  · have en : ((2 : Int) == n) = false := by rw [beq_eq_false_iff_ne]; omega
    go_wp2
    go_ret2
    exact ret_lq_no hn H2x.out

set_option maxHeartbeats 4000000 in
theorem letters17_s3 (s : List UInt8) (n : Nat) (j1 : (s == [106, 97, 108]) = false) (j2 : (s == [106, 97, 108, 114]) = false) (ho : opP s = 0) (b0 : inB s [[99, 46, 97, 100, 100, 105, 52, 115, 112, 110]] = false) (b1 : inB s [[99, 46, 108, 119], [99, 46, 108, 119, 115, 112]] = false) (b2 : inB s [[99, 46, 115, 119], [99, 46, 115, 119, 115, 112]] = false) (b3 : inB s [[99, 46, 110, 111, 112], [99, 46, 101, 98, 114, 101, 97, 107], [110, 111, 112], [114, 101, 116]] = true) (w : World) :
    Calls Tryd.prog 20 #[.string (B s), .int .i64 n] w (RetLq [] n w) := by
  have CO := Lib.hid (fun w => op17_any s w)
  rw [ho] at CO
  clear ho
  have B0 := Lib.hid b0
  clear b0
  have B1 := Lib.hid b1
  clear b1
  have B2 := Lib.hid b2
  clear b2
  have B3 := Lib.hid b3
  clear b3
  go_enter Tryd.func20, Tryd.ntmps20
  go_wp2_with fail
  refine (CO.out _).mono ?_
  rintro e w0 ⟨rfl, hn0⟩
  have H0 := Lib.hid (((Nx.refl w).alloc _).trans hn0)
  clear hn0
  go_wp2_with fail
  refine (in17n_any s _ [[99, 46, 97, 100, 100, 105, 52, 115, 112, 110]] (by decide) _ B0.out _ ⟨_, _, rfl, Or.inr ⟨_, rfl, Strs.new _ [[99, 46, 97, 100, 100, 105, 52, 115, 112, 110]] 9⟩⟩).mono ?_
  rintro e x0 ⟨rfl, hn1⟩
  have H0x := Lib.hid (H0.out.trans (((Nx.refl _).alloc _).trans hn1))
  clear hn1
  go_wp2_with fail
  refine (in17n_any s _ [[99, 46, 108, 119], [99, 46, 108, 119, 115, 112]] (by decide) _ B1.out _ ⟨_, _, rfl, Or.inr ⟨_, rfl, Strs.new _ [[99, 46, 108, 119], [99, 46, 108, 119, 115, 112]] 9⟩⟩).mono ?_
  rintro e x1 ⟨rfl, hn2⟩
  have H1x := Lib.hid (H0x.out.trans (((Nx.refl _).alloc _).trans hn2))
  clear hn2
  go_wp2_with fail
  refine (in17n_any s _ [[99, 46, 115, 119], [99, 46, 115, 119, 115, 112]] (by decide) _ B2.out _ ⟨_, _, rfl, Or.inr ⟨_, rfl, Strs.new _ [[99, 46, 115, 119], [99, 46, 115, 119, 115, 112]] 9⟩⟩).mono ?_
  rintro e x2 ⟨rfl, hn3⟩
  have H2x := Lib.hid (H1x.out.trans (((Nx.refl _).alloc _).trans hn3))
  clear hn3
  go_wp2_with fail
  refine (in17n_any s _ [[99, 46, 110, 111, 112], [99, 46, 101, 98, 114, 101, 97, 107], [110, 111, 112], [114, 101, 116]] (by decide) _ B3.out _ ⟨_, _, rfl, Or.inr ⟨_, rfl, Strs.new _ [[99, 46, 110, 111, 112], [99, 46, 101, 98, 114, 101, 97, 107], [110, 111, 112], [114, 101, 116]] 9⟩⟩).mono ?_
  rintro e x3 ⟨rfl, hn4⟩
  have H3x := Lib.hid (H2x.out.trans (((Nx.refl _).alloc _).trans hn4))
  clear hn4
  by_cases hn : 0 = n
  · have en : ((0 : Int) == n) = true := by rw [beq_iff_eq]; omega
    go_wp2
    go_ret2
    exact ret_lq_yes hn H3x.out
  · have en : ((0 : Int) == n) = false := by rw [beq_eq_false_iff_ne]; omega
    go_wp2
    go_ret2
    exact ret_lq_no hn H3x.out

set_option maxHeartbeats 4000000 in
theorem letters17_s4 (s : List UInt8) (n : Nat) (j1 : (s == [106, 97, 108]) = false) (j2 : (s == [106, 97, 108, 114]) = false) (ho : opP s = 0) (b0 : inB s [[99, 46, 97, 100, 100, 105, 52, 115, 112, 110]] = false) (b1 : inB s [[99, 46, 108, 119], [99, 46, 108, 119, 115, 112]] = false) (b2 : inB s [[99, 46, 115, 119], [99, 46, 115, 119, 115, 112]] = false) (b3 : inB s [[99, 46, 110, 111, 112], [99, 46, 101, 98, 114, 101, 97, 107], [110, 111, 112], [114, 101, 116]] = false) (b4 : inB s [[99, 46, 97, 100, 100, 105], [99, 46, 97, 100, 100, 105, 49, 54, 115, 112], [99, 46, 115, 114, 108, 105], [99, 46, 115, 114, 97, 105], [99, 46, 97, 110, 100, 105], [99, 46, 115, 108, 108, 105]] = true) (w : World) :
    Calls Tryd.prog 20 #[.string (B s), .int .i64 n] w (RetLq [120, 105] n w) := by
  have CO := Lib.hid (fun w => op17_any s w)
  rw [ho] at CO
  clear ho
  have B0 := Lib.hid b0
  clear b0
  have B1 := Lib.hid b1
  clear b1
  have B2 := Lib.hid b2
  clear b2
  have B3 := Lib.hid b3
  clear b3
  have B4 := Lib.hid b4
  clear b4
  go_enter Tryd.func20, Tryd.ntmps20
  go_wp2_with fail
  refine (CO.out _).mono ?_
  rintro e w0 ⟨rfl, hn0⟩
  have H0 := Lib.hid (((Nx.refl w).alloc _).trans hn0)
  clear hn0
  go_wp2_with fail
  refine (in17n_any s _ [[99, 46, 97, 100, 100, 105, 52, 115, 112, 110]] (by decide) _ B0.out _ ⟨_, _, rfl, Or.inr ⟨_, rfl, Strs.new _ [[99, 46, 97, 100, 100, 105, 52, 115, 112, 110]] 9⟩⟩).mono ?_
  rintro e x0 ⟨rfl, hn1⟩
  have H0x := Lib.hid (H0.out.trans (((Nx.refl _).alloc _).trans hn1))
  clear hn1
  go_wp2_with fail
  refine (in17n_any s _ [[99, 46, 108, 119], [99, 46, 108, 119, 115, 112]] (by decide) _ B1.out _ ⟨_, _, rfl, Or.inr ⟨_, rfl, Strs.new _ [[99, 46, 108, 119], [99, 46, 108, 119, 115, 112]] 9⟩⟩).mono ?_
  rintro e x1 ⟨rfl, hn2⟩
  have H1x := Lib.hid (H0x.out.trans (((Nx.refl _).alloc _).trans hn2))
  clear hn2
  go_wp2_with fail
  refine (in17n_any s _ [[99, 46, 115, 119], [99, 46, 115, 119, 115, 112]] (by decide) _ B2.out _ ⟨_, _, rfl, Or.inr ⟨_, rfl, Strs.new _ [[99, 46, 115, 119], [99, 46, 115, 119, 115, 112]] 9⟩⟩).mono ?_
  rintro e x2 ⟨rfl, hn3⟩
  have H2x := Lib.hid (H1x.out.trans (((Nx.refl _).alloc _).trans hn3))
  clear hn3
  go_wp2_with fail
  refine (in17n_any s _ [[99, 46, 110, 111, 112], [99, 46, 101, 98, 114, 101, 97, 107], [110, 111, 112], [114, 101, 116]] (by decide) _ B3.out _ ⟨_, _, rfl, Or.inr ⟨_, rfl, Strs.new _ [[99, 46, 110, 111, 112], [99, 46, 101, 98, 114, 101, 97, 107], [110, 111, 112], [114, 101, 116]] 9⟩⟩).mono ?_
  rintro e x3 ⟨rfl, hn4⟩
  have H3x := Lib.hid (H2x.out.trans (((Nx.refl _).alloc _).trans hn4))
  clear hn4
  go_wp2_with fail
  refine (in17n_any s _ [[99, 46, 97, 100, 100, 105], [99, 46, 97, 100, 100, 105, 49, 54, 115, 112], [99, 46, 115, 114, 108, 105], [99, 46, 115, 114, 97, 105], [99, 46, 97, 110, 100, 105], [99, 46, 115, 108, 108, 105]] (by decide) _ B4.out _ ⟨_, _, rfl, Or.inr ⟨_, rfl, Strs.new _ [[99, 46, 97, 100, 100, 105], [99, 46, 97, 100, 100, 105, 49, 54, 115, 112], [99, 46, 115, 114, 108, 105], [99, 46, 115, 114, 97, 105], [99, 46, 97, 110, 100, 105], [99, 46, 115, 108, 108, 105]] 9⟩⟩).mono ?_
  rintro e x4 ⟨rfl, hn5⟩
  have H4x := Lib.hid (H3x.out.trans (((Nx.refl _).alloc _).trans hn5))
  clear hn5
  by_cases hn : 2 = n
  · have en : ((2 : Int) == n) = true := by rw [beq_iff_eq]; omega
    go_wp2
    go_ret2
    exact ret_lq_yes hn H4x.out
  · have en : ((2 : Int) == n) = false := by rw [beq_eq_false_iff_ne]; omega
    go_wp2
    go_ret2
    exact ret_lq_no hn H4x.out

set_option maxHeartbeats 4000000 in
theorem letters17_s5 (s : List UInt8) (n : Nat) (j1 : (s == [106, 97, 108]) = false) (j2 : (s == [106, 97, 108, 114]) = false) (ho : opP s = 0) (b0 : inB s [[99, 46, 97, 100, 100, 105, 52, 115, 112, 110]] = false) (b1 : inB s [[99, 46, 108, 119], [99, 46, 108, 119, 115, 112]] = false) (b2 : inB s [[99, 46, 115, 119], [99, 46, 115, 119, 115, 112]] = false) (b3 : inB s [[99, 46, 110, 111, 112], [99, 46, 101, 98, 114, 101, 97, 107], [110, 111, 112], [114, 101, 116]] = false) (b4 : inB s [[99, 46, 97, 100, 100, 105], [99, 46, 97, 100, 100, 105, 49, 54, 115, 112], [99, 46, 115, 114, 108, 105], [99, 46, 115, 114, 97, 105], [99, 46, 97, 110, 100, 105], [99, 46, 115, 108, 108, 105]] = false) (b5 : (s == [99, 46, 108, 105]) = true) (w : World) :
    Calls Tryd.prog 20 #[.string (B s), .int .i64 n] w (RetLq [100, 105] n w) := by
  have CO := Lib.hid (fun w => op17_any s w)
  rw [ho] at CO
  clear ho
  have B0 := Lib.hid b0
  clear b0
  have B1 := Lib.hid b1
  clear b1
  have B2 := Lib.hid b2
  clear b2
  have B3 := Lib.hid b3
  clear b3
  have B4 := Lib.hid b4
  clear b4
  go_enter Tryd.func20, Tryd.ntmps20
  go_wp2_with fail
  refine (CO.out _).mono ?_
  rintro e w0 ⟨rfl, hn0⟩
  have H0 := Lib.hid (((Nx.refl w).alloc _).trans hn0)
  clear hn0
  go_wp2_with fail
  refine (in17n_any s _ [[99, 46, 97, 100, 100, 105, 52, 115, 112, 110]] (by decide) _ B0.out _ ⟨_, _, rfl, Or.inr ⟨_, rfl, Strs.new _ [[99, 46, 97, 100, 100, 105, 52, 115, 112, 110]] 9⟩⟩).mono ?_
  rintro e x0 ⟨rfl, hn1⟩
  have H0x := Lib.hid (H0.out.trans (((Nx.refl _).alloc _).trans hn1))
  clear hn1
  go_wp2_with fail
  refine (in17n_any s _ [[99, 46, 108, 119], [99, 46, 108, 119, 115, 112]] (by decide) _ B1.out _ ⟨_, _, rfl, Or.inr ⟨_, rfl, Strs.new _ [[99, 46, 108, 119], [99, 46, 108, 119, 115, 112]] 9⟩⟩).mono ?_
  rintro e x1 ⟨rfl, hn2⟩
  have H1x := Lib.hid (H0x.out.trans (((Nx.refl _).alloc _).trans hn2))
  clear hn2
  go_wp2_with fail
  refine (in17n_any s _ [[99, 46, 115, 119], [99, 46, 115, 119, 115, 112]] (by decide) _ B2.out _ ⟨_, _, rfl, Or.inr ⟨_, rfl, Strs.new _ [[99, 46, 115, 119], [99, 46, 115, 119, 115, 112]] 9⟩⟩).mono ?_
  rintro e x2 ⟨rfl, hn3⟩
  have H2x := Lib.hid (H1x.out.trans (((Nx.refl _).alloc _).trans hn3))
  clear hn3
  go_wp2_with fail
  refine (in17n_any s _ [[99, 46, 110, 111, 112], [99, 46, 101, 98, 114, 101, 97, 107], [110, 111, 112], [114, 101, 116]] (by decide) _ B3.out _ ⟨_, _, rfl, Or.inr ⟨_, rfl, Strs.new _ [[99, 46, 110, 111, 112], [99, 46, 101, 98, 114, 101, 97, 107], [110, 111, 112], [114, 101, 116]] 9⟩⟩).mono ?_
  rintro e x3 ⟨rfl, hn4⟩
  have H3x := Lib.hid (H2x.out.trans (((Nx.refl _).alloc _).trans hn4))
  clear hn4
  go_wp2_with fail
  refine (in17n_any s _ [[99, 46, 97, 100, 100, 105], [99, 46, 97, 100, 100, 105, 49, 54, 115, 112], [99, 46, 115, 114, 108, 105], [99, 46, 115, 114, 97, 105], [99, 46, 97, 110, 100, 105], [99, 46, 115, 108, 108, 105]] (by decide) _ B4.out _ ⟨_, _, rfl, Or.inr ⟨_, rfl, Strs.new _ [[99, 46, 97, 100, 100, 105], [99, 46, 97, 100, 100, 105, 49, 54, 115, 112], [99, 46, 115, 114, 108, 105], [99, 46, 115, 114, 97, 105], [99, 46, 97, 110, 100, 105], [99, 46, 115, 108, 108, 105]] 9⟩⟩).mono ?_
  rintro e x4 ⟨rfl, hn5⟩
  have H4x := Lib.hid (H3x.out.trans (((Nx.refl _).alloc _).trans hn5))
  clear hn5
  by_cases hn : 2 = n
  · have en : ((2 : Int) == n) = true := by rw [beq_iff_eq]; omega
    go_wp2
    go_ret2
    exact ret_lq_yes hn H4x.out
  · have en : ((2 : Int) == n) = false := by rw [beq_eq_false_iff_ne]; omega
    go_wp2
    go_ret2
    exact ret_lq_no hn H4x.out

set_option maxHeartbeats 4000000 in
theorem letters17_s6 (s : List UInt8) (n : Nat) (j1 : (s == [106, 97, 108]) = false) (j2 : (s == [106, 97, 108, 114]) = false) (ho : opP s = 0) (b0 : inB s [[99, 46, 97, 100, 100, 105, 52, 115, 112, 110]] = false) (b1 : inB s [[99, 46, 108, 119], [99, 46, 108, 119, 115, 112]] = false) (b2 : inB s [[99, 46, 115, 119], [99, 46, 115, 119, 115, 112]] = false) (b3 : inB s [[99, 46, 110, 111, 112], [99, 46, 101, 98, 114, 101, 97, 107], [110, 111, 112], [114, 101, 116]] = false) (b4 : inB s [[99, 46, 97, 100, 100, 105], [99, 46, 97, 100, 100, 105, 49, 54, 115, 112], [99, 46, 115, 114, 108, 105], [99, 46, 115, 114, 97, 105], [99, 46, 97, 110, 100, 105], [99, 46, 115, 108, 108, 105]] = false) (b5 : (s == [99, 46, 108, 105]) = false) (b6 : (s == [99, 46, 108, 117, 105]) = true) (w : World) :
    Calls Tryd.prog 20 #[.string (B s), .int .i64 n] w (RetLq [100, 117] n w) := by
  have CO := Lib.hid (fun w => op17_any s w)
  rw [ho] at CO
  clear ho
  have B0 := Lib.hid b0
  clear b0
  have B1 := Lib.hid b1
  clear b1
  have B2 := Lib.hid b2
  clear b2
  have B3 := Lib.hid b3
  clear b3
  have B4 := Lib.hid b4
  clear b4
  go_enter Tryd.func20, Tryd.ntmps20
  go_wp2_with fail
  refine (CO.out _).mono ?_
  rintro e w0 ⟨rfl, hn0⟩
  have H0 := Lib.hid (((Nx.refl w).alloc _).trans hn0)
  clear hn0
  go_wp2_with fail
  refine (in17n_any s _ [[99, 46, 97, 100, 100, 105, 52, 115, 112, 110]] (by decide) _ B0.out _ ⟨_, _, rfl, Or.inr ⟨_, rfl, Strs.new _ [[99, 46, 97, 100, 100, 105, 52, 115, 112, 110]] 9⟩⟩).mono ?_
  rintro e x0 ⟨rfl, hn1⟩
  have H0x := Lib.hid (H0.out.trans (((Nx.refl _).alloc _).trans hn1))
  clear hn1
  go_wp2_with fail
  refine (in17n_any s _ [[99, 46, 108, 119], [99, 46, 108, 119, 115, 112]] (by decide) _ B1.out _ ⟨_, _, rfl, Or.inr ⟨_, rfl, Strs.new _ [[99, 46, 108, 119], [99, 46, 108, 119, 115, 112]] 9⟩⟩).mono ?_
  rintro e x1 ⟨rfl, hn2⟩
  have H1x := Lib.hid (H0x.out.trans (((Nx.refl _).alloc _).trans hn2))
  clear hn2
  go_wp2_with fail
  refine (in17n_any s _ [[99, 46, 115, 119], [99, 46, 115, 119, 115, 112]] (by decide) _ B2.out _ ⟨_, _, rfl, Or.inr ⟨_, rfl, Strs.new _ [[99, 46, 115, 119], [99, 46, 115, 119, 115, 112]] 9⟩⟩).mono ?_
  rintro e x2 ⟨rfl, hn3⟩
  have H2x := Lib.hid (H1x.out.trans (((Nx.refl _).alloc _).trans hn3))
  clear hn3
  go_wp2_with fail
  refine (in17n_any s _ [[99, 46, 110, 111, 112], [99, 46, 101, 98, 114, 101, 97, 107], [110, 111, 112], [114, 101, 116]] (by decide) _ B3.out _ ⟨_, _, rfl, Or.inr ⟨_, rfl, Strs.new _ [[99, 46, 110, 111, 112], [99, 46, 101, 98, 114, 101, 97, 107], [110, 111, 112], [114, 101, 116]] 9⟩⟩).mono ?_
  rintro e x3 ⟨rfl, hn4⟩
  have H3x := Lib.hid (H2x.out.trans (((Nx.refl _).alloc _).trans hn4))
  clear hn4
  go_wp2_with fail
  refine (in17n_any s _ [[99, 46, 97, 100, 100, 105], [99, 46, 97, 100, 100, 105, 49, 54, 115, 112], [99, 46, 115, 114, 108, 105], [99, 46, 115, 114, 97, 105], [99, 46, 97, 110, 100, 105], [99, 46, 115, 108, 108, 105]] (by decide) _ B4.out _ ⟨_, _, rfl, Or.inr ⟨_, rfl, Strs.new _ [[99, 46, 97, 100, 100, 105], [99, 46, 97, 100, 100, 105, 49, 54, 115, 112], [99, 46, 115, 114, 108, 105], [99, 46, 115, 114, 97, 105], [99, 46, 97, 110, 100, 105], [99, 46, 115, 108, 108, 105]] 9⟩⟩).mono ?_
  rintro e x4 ⟨rfl, hn5⟩
  have H4x := Lib.hid (H3x.out.trans (((Nx.refl _).alloc _).trans hn5))
  clear hn5
  by_cases hn : 2 = n
  · have en : ((2 : Int) == n) = true := by rw [beq_iff_eq]; omega
    go_wp2
    go_ret2
    exact ret_lq_yes hn H4x.out
  · have en : ((2 : Int) == n) = false := by rw [beq_eq_false_iff_ne]; omega
    go_wp2
    go_ret2
    exact ret_lq_no hn H4x.out

set_option maxHeartbeats 4000000 in
theorem letters17_s7 (s : List UInt8) (n : Nat) (j1 : (s == [106, 97, 108]) = false) (j2 : (s == [106, 97, 108, 114]) = false) (ho : opP s = 0) (b0 : inB s [[99, 46, 97, 100, 100, 105, 52, 115, 112, 110]] = false) (b1 : inB s [[99, 46, 108, 119], [99, 46, 108, 119, 115, 112]] = false) (b2 : inB s [[99, 46, 115, 119], [99, 46, 115, 119, 115, 112]] = false) (b3 : inB s [[99, 46, 110, 111, 112], [99, 46, 101, 98, 114, 101, 97, 107], [110, 111, 112], [114, 101, 116]] = false) (b4 : inB s [[99, 46, 97, 100, 100, 105], [99, 46, 97, 100, 100, 105, 49, 54, 115, 112], [99, 46, 115, 114, 108, 105], [99, 46, 115, 114, 97, 105], [99, 46, 97, 110, 100, 105], [99, 46, 115, 108, 108, 105]] = false) (b5 : (s == [99, 46, 108, 105]) = false) (b6 : (s == [99, 46, 108, 117, 105]) = false) (b7 : inB s [[99, 46, 115, 117, 98], [99, 46, 120, 111, 114], [99, 46, 111, 114], [99, 46, 97, 110, 100], [99, 46, 97, 100, 100]] = true) (w : World) :
    Calls Tryd.prog 20 #[.string (B s), .int .i64 n] w (RetLq [120, 116] n w) := by
  have CO := Lib.hid (fun w => op17_any s w)
  rw [ho] at CO
  clear ho
  have B0 := Lib.hid b0
  clear b0
  have B1 := Lib.hid b1
  clear b1
  have B2 := Lib.hid b2
  clear b2
  have B3 := Lib.hid b3
  clear b3
  have B4 := Lib.hid b4
  clear b4
  have B7 := Lib.hid b7
  clear b7
  go_enter Tryd.func20, Tryd.ntmps20
  go_wp2_with fail
  refine (CO.out _).mono ?_
  rintro e w0 ⟨rfl, hn0⟩
  have H0 := Lib.hid (((Nx.refl w).alloc _).trans hn0)
  clear hn0
  go_wp2_with fail
  refine (in17n_any s _ [[99, 46, 97, 100, 100, 105, 52, 115, 112, 110]] (by decide) _ B0.out _ ⟨_, _, rfl, Or.inr ⟨_, rfl, Strs.new _ [[99, 46, 97, 100, 100, 105, 52, 115, 112, 110]] 9⟩⟩).mono ?_
  rintro e x0 ⟨rfl, hn1⟩
  have H0x := Lib.hid (H0.out.trans (((Nx.refl _).alloc _).trans hn1))
  clear hn1
  go_wp2_with fail
  refine (in17n_any s _ [[99, 46, 108, 119], [99, 46, 108, 119, 115, 112]] (by decide) _ B1.out _ ⟨_, _, rfl, Or.inr ⟨_, rfl, Strs.new _ [[99, 46, 108, 119], [99, 46, 108, 119, 115, 112]] 9⟩⟩).mono ?_
  rintro e x1 ⟨rfl, hn2⟩
  have H1x := Lib.hid (H0x.out.trans (((Nx.refl _).alloc _).trans hn2))
  clear hn2
  go_wp2_with fail
  refine (in17n_any s _ [[99, 46, 115, 119], [99, 46, 115, 119, 115, 112]] (by decide) _ B2.out _ ⟨_, _, rfl, Or.inr ⟨_, rfl, Strs.new _ [[99, 46, 115, 119], [99, 46, 115, 119, 115, 112]] 9⟩⟩).mono ?_
  rintro e x2 ⟨rfl, hn3⟩
  have H2x := Lib.hid (H1x.out.trans (((Nx.refl _).alloc _).trans hn3))
  clear hn3
  go_wp2_with fail
  refine (in17n_any s _ [[99, 46, 110, 111, 112], [99, 46, 101, 98, 114, 101, 97, 107], [110, 111, 112], [114, 101, 116]] (by decide) _ B3.out _ ⟨_, _, rfl, Or.inr ⟨_, rfl, Strs.new _ [[99, 46, 110, 111, 112], [99, 46, 101, 98, 114, 101, 97, 107], [110, 111, 112], [114, 101, 116]] 9⟩⟩).mono ?_
  rintro e x3 ⟨rfl, hn4⟩
  have H3x := Lib.hid (H2x.out.trans (((Nx.refl _).alloc _).trans hn4))
  clear hn4
  go_wp2_with fail
  refine (in17n_any s _ [[99, 46, 97, 100, 100, 105], [99, 46, 97, 100, 100, 105, 49, 54, 115, 112], [99, 46, 115, 114, 108, 105], [99, 46, 115, 114, 97, 105], [99, 46, 97, 110, 100, 105], [99, 46, 115, 108, 108, 105]] (by decide) _ B4.out _ ⟨_, _, rfl, Or.inr ⟨_, rfl, Strs.new _ [[99, 46, 97, 100, 100, 105], [99, 46, 97, 100, 100, 105, 49, 54, 115, 112], [99, 46, 115, 114, 108, 105], [99, 46, 115, 114, 97, 105], [99, 46, 97, 110, 100, 105], [99, 46, 115, 108, 108, 105]] 9⟩⟩).mono ?_
  rintro e x4 ⟨rfl, hn5⟩
  have H4x := Lib.hid (H3x.out.trans (((Nx.refl _).alloc _).trans hn5))
  clear hn5
  go_wp2_with fail
  refine (in17n_any s _ [[99, 46, 115, 117, 98], [99, 46, 120, 111, 114], [99, 46, 111, 114], [99, 46, 97, 110, 100], [99, 46, 97, 100, 100]] (by decide) _ B7.out _ ⟨_, _, rfl, Or.inr ⟨_, rfl, Strs.new _ [[99, 46, 115, 117, 98], [99, 46, 120, 111, 114], [99, 46, 111, 114], [99, 46, 97, 110, 100], [99, 46, 97, 100, 100]] 9⟩⟩).mono ?_
  rintro e x7 ⟨rfl, hn8⟩
  have H7x := Lib.hid (H4x.out.trans (((Nx.refl _).alloc _).trans hn8))
  clear hn8
  by_cases hn : 2 = n
  · have en : ((2 : Int) == n) = true := by rw [beq_iff_eq]; omega
    go_wp2
    go_ret2
    exact ret_lq_yes hn H7x.out
  · have en : ((2 : Int) == n) = false := by rw [beq_eq_false_iff_ne]; omega
    go_wp2
    go_ret2
    exact ret_lq_no hn H7x.out

set_option maxHeartbeats 4000000 in
theorem letters17_s8 (s : List UInt8) (n : Nat) (j1 : (s == [106, 97, 108]) = false) (j2 : (s == [106, 97, 108, 114]) = false) (ho : opP s = 0) (b0 : inB s [[99, 46, 97, 100, 100, 105, 52, 115, 112, 110]] = false) (b1 : inB s [[99, 46, 108, 119], [99, 46, 108, 119, 115, 112]] = false) (b2 : inB s [[99, 46, 115, 119], [99, 46, 115, 119, 115, 112]] = false) (b3 : inB s [[99, 46, 110, 111, 112], [99, 46, 101, 98, 114, 101, 97, 107], [110, 111, 112], [114, 101, 116]] = false) (b4 : inB s [[99, 46, 97, 100, 100, 105], [99, 46, 97, 100, 100, 105, 49, 54, 115, 112], [99, 46, 115, 114, 108, 105], [99, 46, 115, 114, 97, 105], [99, 46, 97, 110, 100, 105], [99, 46, 115, 108, 108, 105]] = false) (b5 : (s == [99, 46, 108, 105]) = false) (b6 : (s == [99, 46, 108, 117, 105]) = false) (b7 : inB s [[99, 46, 115, 117, 98], [99, 46, 120, 111, 114], [99, 46, 111, 114], [99, 46, 97, 110, 100], [99, 46, 97, 100, 100]] = false) (b8 : inB s [[99, 46, 109, 118], [109, 118], [110, 101, 103], [115, 110, 101, 122]] = true) (w : World) :
    Calls Tryd.prog 20 #[.string (B s), .int .i64 n] w (RetLq [100, 116] n w) := by
  have CO := Lib.hid (fun w => op17_any s w)
  rw [ho] at CO
  clear ho
  have B0 := Lib.hid b0
  clear b0
  have B1 := Lib.hid b1
  clear b1
  have B2 := Lib.hid b2
  clear b2
  have B3 := Lib.hid b3
  clear b3
  have B4 := Lib.hid b4
  clear b4
  have B7 := Lib.hid b7
  clear b7
  have B8 := Lib.hid b8
  clear b8
  go_enter Tryd.func20, Tryd.ntmps20
  go_wp2_with fail
  refine (CO.out _).mono ?_
  rintro e w0 ⟨rfl, hn0⟩
  have H0 := Lib.hid (((Nx.refl w).alloc _).trans hn0)
  clear hn0
  go_wp2_with fail
  refine (in17n_any s _ [[99, 46, 97, 100, 100, 105, 52, 115, 112, 110]] (by decide) _ B0.out _ ⟨_, _, rfl, Or.inr ⟨_, rfl, Strs.new _ [[99, 46, 97, 100, 100, 105, 52, 115, 112, 110]] 9⟩⟩).mono ?_
  rintro e x0 ⟨rfl, hn1⟩
  have H0x := Lib.hid (H0.out.trans (((Nx.refl _).alloc _).trans hn1))
  clear hn1
  go_wp2_with fail
  refine (in17n_any s _ [[99, 46, 108, 119], [99, 46, 108, 119, 115, 112]] (by decide) _ B1.out _ ⟨_, _, rfl, Or.inr ⟨_, rfl, Strs.new _ [[99, 46, 108, 119], [99, 46, 108, 119, 115, 112]] 9⟩⟩).mono ?_
  rintro e x1 ⟨rfl, hn2⟩
  have H1x := Lib.hid (H0x.out.trans (((Nx.refl _).alloc _).trans hn2))
  clear hn2
  go_wp2_with fail
  refine (in17n_any s _ [[99, 46, 115, 119], [99, 46, 115, 119, 115, 112]] (by decide) _ B2.out _ ⟨_, _, rfl, Or.inr ⟨_, rfl, Strs.new _ [[99, 46, 115, 119], [99, 46, 115, 119, 115, 112]] 9⟩⟩).mono ?_
  rintro e x2 ⟨rfl, hn3⟩
  have H2x := Lib.hid (H1x.out.trans (((Nx.refl _).alloc _).trans hn3))
  clear hn3
  go_wp2_with fail
  refine (in17n_any s _ [[99, 46, 110, 111, 112], [99, 46, 101, 98, 114, 101, 97, 107], [110, 111, 112], [114, 101, 116]] (by decide) _ B3.out _ ⟨_, _, rfl, Or.inr ⟨_, rfl, Strs.new _ [[99, 46, 110, 111, 112], [99, 46, 101, 98, 114, 101, 97, 107], [110, 111, 112], [114, 101, 116]] 9⟩⟩).mono ?_
  rintro e x3 ⟨rfl, hn4⟩
  have H3x := Lib.hid (H2x.out.trans (((Nx.refl _).alloc _).trans hn4))
  clear hn4
  go_wp2_with fail
  refine (in17n_any s _ [[99, 46, 97, 100, 100, 105], [99, 46, 97, 100, 100, 105, 49, 54, 115, 112], [99, 46, 115, 114, 108, 105], [99, 46, 115, 114, 97, 105], [99, 46, 97, 110, 100, 105], [99, 46, 115, 108, 108, 105]] (by decide) _ B4.out _ ⟨_, _, rfl, Or.inr ⟨_, rfl, Strs.new _ [[99, 46, 97, 100, 100, 105], [99, 46, 97, 100, 100, 105, 49, 54, 115, 112], [99, 46, 115, 114, 108, 105], [99, 46, 115, 114, 97, 105], [99, 46, 97, 110, 100, 105], [99, 46, 115, 108, 108, 105]] 9⟩⟩).mono ?_
  rintro e x4 ⟨rfl, hn5⟩
  have H4x := Lib.hid (H3x.out.trans (((Nx.refl _).alloc _).trans hn5))
  clear hn5
  go_wp2_with fail
  refine (in17n_any s _ [[99, 46, 115, 117, 98], [99, 46, 120, 111, 114], [99, 46, 111, 114], [99, 46, 97, 110, 100], [99, 46, 97, 100, 100]] (by decide) _ B7.out _ ⟨_, _, rfl, Or.inr ⟨_, rfl, Strs.new _ [[99, 46, 115, 117, 98], [99, 46, 120, 111, 114], [99, 46, 111, 114], [99, 46, 97, 110, 100], [99, 46, 97, 100, 100]] 9⟩⟩).mono ?_
  rintro e x7 ⟨rfl, hn8⟩
  have H7x := Lib.hid (H4x.out.trans (((Nx.refl _).alloc _).trans hn8))
  clear hn8
  go_wp2_with fail
  refine (in17n_any s _ [[99, 46, 109, 118], [109, 118], [110, 101, 103], [115, 110, 101, 122]] (by decide) _ B8.out _ ⟨_, _, rfl, Or.inr ⟨_, rfl, Strs.new _ [[99, 46, 109, 118], [109, 118], [110, 101, 103], [115, 110, 101, 122]] 9⟩⟩).mono ?_
  rintro e x8 ⟨rfl, hn9⟩
  have H8x := Lib.hid (H7x.out.trans (((Nx.refl _).alloc _).trans hn9))
  clear hn9
  by_cases hn : 2 = n
  · have en : ((2 : Int) == n) = true := by rw [beq_iff_eq]; omega
    go_wp2
    go_ret2
    exact ret_lq_yes hn H8x.out
  · have en : ((2 : Int) == n) = false := by rw [beq_eq_false_iff_ne]; omega
    go_wp2
    go_ret2
    exact ret_lq_no hn H8x.out

set_option maxHeartbeats 4000000 in
theorem letters17_s10 (s : List UInt8) (n : Nat) (j1 : (s == [106, 97, 108]) = false) (j2 : (s == [106, 97, 108, 114]) = false) (ho : opP s = 0) (b0 : inB s [[99, 46, 97, 100, 100, 105, 52, 115, 112, 110]] = false) (b1 : inB s [[99, 46, 108, 119], [99, 46, 108, 119, 115, 112]] = false) (b2 : inB s [[99, 46, 115, 119], [99, 46, 115, 119, 115, 112]] = false) (b3 : inB s [[99, 46, 110, 111, 112], [99, 46, 101, 98, 114, 101, 97, 107], [110, 111, 112], [114, 101, 116]] = false) (b4 : inB s [[99, 46, 97, 100, 100, 105], [99, 46, 97, 100, 100, 105, 49, 54, 115, 112], [99, 46, 115, 114, 108, 105], [99, 46, 115, 114, 97, 105], [99, 46, 97, 110, 100, 105], [99, 46, 115, 108, 108, 105]] = false) (b5 : (s == [99, 46, 108, 105]) = false) (b6 : (s == [99, 46, 108, 117, 105]) = false) (b7 : inB s [[99, 46, 115, 117, 98], [99, 46, 120, 111, 114], [99, 46, 111, 114], [99, 46, 97, 110, 100], [99, 46, 97, 100, 100]] = false) (b8 : inB s [[99, 46, 109, 118], [109, 118], [110, 101, 103], [115, 110, 101, 122]] = false) (b9 : inB s [[110, 111, 116], [115, 101, 113, 122]] = false) (b10 : inB s [[99, 46, 106, 97, 108], [99, 46, 106], [106]] = true) (w : World) :
    Calls Tryd.prog 20 #[.string (B s), .int .i64 n] w (RetLq [106] n w) := by
  have CO := Lib.hid (fun w => op17_any s w)
  rw [ho] at CO
  clear ho
  have B0 := Lib.hid b0
  clear b0
  have B1 := Lib.hid b1
  clear b1
  have B2 := Lib.hid b2
  clear b2
  have B3 := Lib.hid b3
  clear b3
  have B4 := Lib.hid b4
  clear b4
  have B7 := Lib.hid b7
  clear b7
  have B8 := Lib.hid b8
  clear b8
  have B9 := Lib.hid b9
  clear b9
  have B10 := Lib.hid b10
  clear b10
  go_enter Tryd.func20, Tryd.ntmps20
  go_wp2_with fail
  refine (CO.out _).mono ?_
  rintro e w0 ⟨rfl, hn0⟩
  have H0 := Lib.hid (((Nx.refl w).alloc _).trans hn0)
  clear hn0
  go_wp2_with fail
  refine (in17n_any s _ [[99, 46, 97, 100, 100, 105, 52, 115, 112, 110]] (by decide) _ B0.out _ ⟨_, _, rfl, Or.inr ⟨_, rfl, Strs.new _ [[99, 46, 97, 100, 100, 105, 52, 115, 112, 110]] 9⟩⟩).mono ?_
  rintro e x0 ⟨rfl, hn1⟩
  have H0x := Lib.hid (H0.out.trans (((Nx.refl _).alloc _).trans hn1))
  clear hn1
  go_wp2_with fail
  refine (in17n_any s _ [[99, 46, 108, 119], [99, 46, 108, 119, 115, 112]] (by decide) _ B1.out _ ⟨_, _, rfl, Or.inr ⟨_, rfl, Strs.new _ [[99, 46, 108, 119], [99, 46, 108, 119, 115, 112]] 9⟩⟩).mono ?_
  rintro e x1 ⟨rfl, hn2⟩
  have H1x := Lib.hid (H0x.out.trans (((Nx.refl _).alloc _).trans hn2))
  clear hn2
  go_wp2_with fail
  refine (in17n_any s _ [[99, 46, 115, 119], [99, 46, 115, 119, 115, 112]] (by decide) _ B2.out _ ⟨_, _, rfl, Or.inr ⟨_, rfl, Strs.new _ [[99, 46, 115, 119], [99, 46, 115, 119, 115, 112]] 9⟩⟩).mono ?_
  rintro e x2 ⟨rfl, hn3⟩
  have H2x := Lib.hid (H1x.out.trans (((Nx.refl _).alloc _).trans hn3))
  clear hn3
  go_wp2_with fail
  refine (in17n_any s _ [[99, 46, 110, 111, 112], [99, 46, 101, 98, 114, 101, 97, 107], [110, 111, 112], [114, 101, 116]] (by decide) _ B3.out _ ⟨_, _, rfl, Or.inr ⟨_, rfl, Strs.new _ [[99, 46, 110, 111, 112], [99, 46, 101, 98, 114, 101, 97, 107], [110, 111, 112], [114, 101, 116]] 9⟩⟩).mono ?_
  rintro e x3 ⟨rfl, hn4⟩
  have H3x := Lib.hid (H2x.out.trans (((Nx.refl _).alloc _).trans hn4))
  clear hn4
  go_wp2_with fail
  refine (in17n_any s _ [[99, 46, 97, 100, 100, 105], [99, 46, 97, 100, 100, 105, 49, 54, 115, 112], [99, 46, 115, 114, 108, 105], [99, 46, 115, 114, 97, 105], [99, 46, 97, 110, 100, 105], [99, 46, 115, 108, 108, 105]] (by decide) _ B4.out _ ⟨_, _, rfl, Or.inr ⟨_, rfl, Strs.new _ [[99, 46, 97, 100, 100, 105], [99, 46, 97, 100, 100, 105, 49, 54, 115, 112], [99, 46, 115, 114, 108, 105], [99, 46, 115, 114, 97, 105], [99, 46, 97, 110, 100, 105], [99, 46, 115, 108, 108, 105]] 9⟩⟩).mono ?_
  rintro e x4 ⟨rfl, hn5⟩
  have H4x := Lib.hid (H3x.out.trans (((Nx.refl _).alloc _).trans hn5))
  clear hn5
  go_wp2_with fail
  refine (in17n_any s _ [[99, 46, 115, 117, 98], [99, 46, 120, 111, 114], [99, 46, 111, 114], [99, 46, 97, 110, 100], [99, 46, 97, 100, 100]] (by decide) _ B7.out _ ⟨_, _, rfl, Or.inr ⟨_, rfl, Strs.new _ [[99, 46, 115, 117, 98], [99, 46, 120, 111, 114], [99, 46, 111, 114], [99, 46, 97, 110, 100], [99, 46, 97, 100, 100]] 9⟩⟩).mono ?_
  rintro e x7 ⟨rfl, hn8⟩
  have H7x := Lib.hid (H4x.out.trans (((Nx.refl _).alloc _).trans hn8))
  clear hn8
  go_wp2_with fail
  refine (in17n_any s _ [[99, 46, 109, 118], [109, 118], [110, 101, 103], [115, 110, 101, 122]] (by decide) _ B8.out _ ⟨_, _, rfl, Or.inr ⟨_, rfl, Strs.new _ [[99, 46, 109, 118], [109, 118], [110, 101, 103], [115, 110, 101, 122]] 9⟩⟩).mono ?_
  rintro e x8 ⟨rfl, hn9⟩
  have H8x := Lib.hid (H7x.out.trans (((Nx.refl _).alloc _).trans hn9))
  clear hn9
  go_wp2_with fail
  refine (in17n_any s _ [[110, 111, 116], [115, 101, 113, 122]] (by decide) _ B9.out _ ⟨_, _, rfl, Or.inr ⟨_, rfl, Strs.new _ [[110, 111, 116], [115, 101, 113, 122]] 9⟩⟩).mono ?_
  rintro e x9 ⟨rfl, hn10⟩
  have H9x := Lib.hid (H8x.out.trans (((Nx.refl _).alloc _).trans hn10))
  clear hn10
  go_wp2_with fail
  refine (in17n_any s _ [[99, 46, 106, 97, 108], [99, 46, 106], [106]] (by decide) _ B10.out _ ⟨_, _, rfl, Or.inr ⟨_, rfl, Strs.new _ [[99, 46, 106, 97, 108], [99, 46, 106], [106]] 9⟩⟩).mono ?_
  rintro e x10 ⟨rfl, hn11⟩
  have H10x := Lib.hid (H9x.out.trans (((Nx.refl _).alloc _).trans hn11))
  clear hn11
  by_cases hn : 1 = n
  · have en : ((1 : Int) == n) = true := by rw [beq_iff_eq]; omega
    go_wp2
    go_ret2
    exact ret_lq_yes hn H10x.out
  · have en : ((1 : Int) == n) = false := by rw [beq_eq_false_iff_ne]; omega
    go_wp2
    go_ret2
    exact ret_lq_no hn H10x.out

set_option maxHeartbeats 4000000 in
theorem letters17_s11 (s : List UInt8) (n : Nat) (j1 : (s == [106, 97, 108]) = false) (j2 : (s == [106, 97, 108, 114]) = false) (ho : opP s = 0) (b0 : inB s [[99, 46, 97, 100, 100, 105, 52, 115, 112, 110]] = false) (b1 : inB s [[99, 46, 108, 119], [99, 46, 108, 119, 115, 112]] = false) (b2 : inB s [[99, 46, 115, 119], [99, 46, 115, 119, 115, 112]] = false) (b3 : inB s [[99, 46, 110, 111, 112], [99, 46, 101, 98, 114, 101, 97, 107], [110, 111, 112], [114, 101, 116]] = false) (b4 : inB s [[99, 46, 97, 100, 100, 105], [99, 46, 97, 100, 100, 105, 49, 54, 115, 112], [99, 46, 115, 114, 108, 105], [99, 46, 115, 114, 97, 105], [99, 46, 97, 110, 100, 105], [99, 46, 115, 108, 108, 105]] = false) (b5 : (s == [99, 46, 108, 105]) = false) (b6 : (s == [99, 46, 108, 117, 105]) = false) (b7 : inB s [[99, 46, 115, 117, 98], [99, 46, 120, 111, 114], [99, 46, 111, 114], [99, 46, 97, 110, 100], [99, 46, 97, 100, 100]] = false) (b8 : inB s [[99, 46, 109, 118], [109, 118], [110, 101, 103], [115, 110, 101, 122]] = false) (b9 : inB s [[110, 111, 116], [115, 101, 113, 122]] = false) (b10 : inB s [[99, 46, 106, 97, 108], [99, 46, 106], [106]] = false) (b11 : inB s [[99, 46, 98, 101, 113, 122], [99, 46, 98, 110, 101, 122], [98, 101, 113, 122], [98, 110, 101, 122], [98, 103, 101, 122], [98, 108, 116, 122]] = true) (w : World) :
    Calls Tryd.prog 20 #[.string (B s), .int .i64 n] w (RetLq [115, 106] n w) := by
  have CO := Lib.hid (fun w => op17_any s w)
  rw [ho] at CO
  clear ho
  have B0 := Lib.hid b0
  clear b0
  have B1 := Lib.hid b1
  clear b1
  have B2 := Lib.hid b2
  clear b2
  have B3 := Lib.hid b3
  clear b3
  have B4 := Lib.hid b4
  clear b4
  have B7 := Lib.hid b7
  clear b7
  have B8 := Lib.hid b8
  clear b8
  have B9 := Lib.hid b9
  clear b9
  have B10 := Lib.hid b10
  clear b10
  have B11 := Lib.hid b11
  clear b11
  go_enter Tryd.func20, Tryd.ntmps20
  go_wp2_with fail
  refine (CO.out _).mono ?_
  rintro e w0 ⟨rfl, hn0⟩
  have H0 := Lib.hid (((Nx.refl w).alloc _).trans hn0)
  clear hn0
  go_wp2_with fail
  refine (in17n_any s _ [[99, 46, 97, 100, 100, 105, 52, 115, 112, 110]] (by decide) _ B0.out _ ⟨_, _, rfl, Or.inr ⟨_, rfl, Strs.new _ [[99, 46, 97, 100, 100, 105, 52, 115, 112, 110]] 9⟩⟩).mono ?_
  rintro e x0 ⟨rfl, hn1⟩
  have H0x := Lib.hid (H0.out.trans (((Nx.refl _).alloc _).trans hn1))
  clear hn1
  go_wp2_with fail
  refine (in17n_any s _ [[99, 46, 108, 119], [99, 46, 108, 119, 115, 112]] (by decide) _ B1.out _ ⟨_, _, rfl, Or.inr ⟨_, rfl, Strs.new _ [[99, 46, 108, 119], [99, 46, 108, 119, 115, 112]] 9⟩⟩).mono ?_
  rintro e x1 ⟨rfl, hn2⟩
  have H1x := Lib.hid (H0x.out.trans (((Nx.refl _).alloc _).trans hn2))
  clear hn2
  go_wp2_with fail
  refine (in17n_any s _ [[99, 46, 115, 119], [99, 46, 115, 119, 115, 112]] (by decide) _ B2.out _ ⟨_, _, rfl, Or.inr ⟨_, rfl, Strs.new _ [[99, 46, 115, 119], [99, 46, 115, 119, 115, 112]] 9⟩⟩).mono ?_
  rintro e x2 ⟨rfl, hn3⟩
  have H2x := Lib.hid (H1x.out.trans (((Nx.refl _).alloc _).trans hn3))
  clear hn3
  go_wp2_with fail
  refine (in17n_any s _ [[99, 46, 110, 111, 112], [99, 46, 101, 98, 114, 101, 97, 107], [110, 111, 112], [114, 101, 116]] (by decide) _ B3.out _ ⟨_, _, rfl, Or.inr ⟨_, rfl, Strs.new _ [[99, 46, 110, 111, 112], [99, 46, 101, 98, 114, 101, 97, 107], [110, 111, 112], [114, 101, 116]] 9⟩⟩).mono ?_
  rintro e x3 ⟨rfl, hn4⟩
  have H3x := Lib.hid (H2x.out.trans (((Nx.refl _).alloc _).trans hn4))
  clear hn4
  go_wp2_with fail
  refine (in17n_any s _ [[99, 46, 97, 100, 100, 105], [99, 46, 97, 100, 100, 105, 49, 54, 115, 112], [99, 46, 115, 114, 108, 105], [99, 46, 115, 114, 97, 105], [99, 46, 97, 110, 100, 105], [99, 46, 115, 108, 108, 105]] (by decide) _ B4.out _ ⟨_, _, rfl, Or.inr ⟨_, rfl, Strs.new _ [[99, 46, 97, 100, 100, 105], [99, 46, 97, 100, 100, 105, 49, 54, 115, 112], [99, 46, 115, 114, 108, 105], [99, 46, 115, 114, 97, 105], [99, 46, 97, 110, 100, 105], [99, 46, 115, 108, 108, 105]] 9⟩⟩).mono ?_
  rintro e x4 ⟨rfl, hn5⟩
  have H4x := Lib.hid (H3x.out.trans (((Nx.refl _).alloc _).trans hn5))
  clear hn5
  go_wp2_with fail
  refine (in17n_any s _ [[99, 46, 115, 117, 98], [99, 46, 120, 111, 114], [99, 46, 111, 114], [99, 46, 97, 110, 100], [99, 46, 97, 100, 100]] (by decide) _ B7.out _ ⟨_, _, rfl, Or.inr ⟨_, rfl, Strs.new _ [[99, 46, 115, 117, 98], [99, 46, 120, 111, 114], [99, 46, 111, 114], [99, 46, 97, 110, 100], [99, 46, 97, 100, 100]] 9⟩⟩).mono ?_
  rintro e x7 ⟨rfl, hn8⟩
  have H7x := Lib.hid (H4x.out.trans (((Nx.refl _).alloc _).trans hn8))
  clear hn8
  go_wp2_with fail
  refine (in17n_any s _ [[99, 46, 109, 118], [109, 118], [110, 101, 103], [115, 110, 101, 122]] (by decide) _ B8.out _ ⟨_, _, rfl, Or.inr ⟨_, rfl, Strs.new _ [[99, 46, 109, 118], [109, 118], [110, 101, 103], [115, 110, 101, 122]] 9⟩⟩).mono ?_
  rintro e x8 ⟨rfl, hn9⟩
  have H8x := Lib.hid (H7x.out.trans (((Nx.refl _).alloc _).trans hn9))
  clear hn9
  go_wp2_with fail
  refine (in17n_any s _ [[110, 111, 116], [115, 101, 113, 122]] (by decide) _ B9.out _ ⟨_, _, rfl, Or.inr ⟨_, rfl, Strs.new _ [[110, 111, 116], [115, 101, 113, 122]] 9⟩⟩).mono ?_
  rintro e x9 ⟨rfl, hn10⟩
  have H9x := Lib.hid (H8x.out.trans (((Nx.refl _).alloc _).trans hn10))
  clear hn10
  go_wp2_with fail
  refine (in17n_any s _ [[99, 46, 106, 97, 108], [99, 46, 106], [106]] (by decide) _ B10.out _ ⟨_, _, rfl, Or.inr ⟨_, rfl, Strs.new _ [[99, 46, 106, 97, 108], [99, 46, 106], [106]] 9⟩⟩).mono ?_
  rintro e x10 ⟨rfl, hn11⟩
  have H10x := Lib.hid (H9x.out.trans (((Nx.refl _).alloc _).trans hn11))
  clear hn11
  go_wp2_with fail
  refine (in17n_any s _ [[99, 46, 98, 101, 113, 122], [99, 46, 98, 110, 101, 122], [98, 101, 113, 122], [98, 110, 101, 122], [98, 103, 101, 122], [98, 108, 116, 122]] (by decide) _ B11.out _ ⟨_, _, rfl, Or.inr ⟨_, rfl, Strs.new _ [[99, 46, 98, 101, 113, 122], [99, 46, 98, 110, 101, 122], [98, 101, 113, 122], [98, 110, 101, 122], [98, 103, 101, 122], [98, 108, 116, 122]] 9⟩⟩).mono ?_
  rintro e x11 ⟨rfl, hn12⟩
  have H11x := Lib.hid (H10x.out.trans (((Nx.refl _).alloc _).trans hn12))
  clear hn12
  by_cases hn : 2 = n
  · have en : ((2 : Int) == n) = true := by rw [beq_iff_eq]; omega
    go_wp2
    go_ret2
    exact ret_lq_yes hn H11x.out
  · have en : ((2 : Int) == n) = false := by rw [beq_eq_false_iff_ne]; omega
    go_wp2
    go_ret2
    exact ret_lq_no hn H11x.out

set_option maxHeartbeats 4000000 in
theorem letters17_s14 (s : List UInt8) (n : Nat) (j1 : (s == [106, 97, 108]) = false) (j2 : (s == [106, 97, 108, 114]) = false) (ho : opP s = 0) (b0 : inB s [[99, 46, 97, 100, 100, 105, 52, 115, 112, 110]] = false) (b1 : inB s [[99, 46, 108, 119], [99, 46, 108, 119, 115, 112]] = false) (b2 : inB s [[99, 46, 115, 119], [99, 46, 115, 119, 115, 112]] = false) (b3 : inB s [[99, 46, 110, 111, 112], [99, 46, 101, 98, 114, 101, 97, 107], [110, 111, 112], [114, 101, 116]] = false) (b4 : inB s [[99, 46, 97, 100, 100, 105], [99, 46, 97, 100, 100, 105, 49, 54, 115, 112], [99, 46, 115, 114, 108, 105], [99, 46, 115, 114, 97, 105], [99, 46, 97, 110, 100, 105], [99, 46, 115, 108, 108, 105]] = false) (b5 : (s == [99, 46, 108, 105]) = false) (b6 : (s == [99, 46, 108, 117, 105]) = false) (b7 : inB s [[99, 46, 115, 117, 98], [99, 46, 120, 111, 114], [99, 46, 111, 114], [99, 46, 97, 110, 100], [99, 46, 97, 100, 100]] = false) (b8 : inB s [[99, 46, 109, 118], [109, 118], [110, 101, 103], [115, 110, 101, 122]] = false) (b9 : inB s [[110, 111, 116], [115, 101, 113, 122]] = false) (b10 : inB s [[99, 46, 106, 97, 108], [99, 46, 106], [106]] = false) (b11 : inB s [[99, 46, 98, 101, 113, 122], [99, 46, 98, 110, 101, 122], [98, 101, 113, 122], [98, 110, 101, 122], [98, 103, 101, 122], [98, 108, 116, 122]] = false) (b12 : inB s [[98, 108, 101, 122], [98, 103, 116, 122]] = false) (b13 : inB s [[98, 103, 116], [98, 108, 101], [98, 103, 116, 117], [98, 108, 101, 117]] = false) (b14 : inB s [[99, 46, 106, 114], [99, 46, 106, 97, 108, 114], [106, 114]] = true) (w : World) :
    Calls Tryd.prog 20 #[.string (B s), .int .i64 n] w (RetLq [115] n w) := by
  have CO := Lib.hid (fun w => op17_any s w)
  rw [ho] at CO
  clear ho
  have B0 := Lib.hid b0
  clear b0
  have B1 := Lib.hid b1
  clear b1
  have B2 := Lib.hid b2
  clear b2
  have B3 := Lib.hid b3
  clear b3
  have B4 := Lib.hid b4
  clear b4
  have B7 := Lib.hid b7
  clear b7
  have B8 := Lib.hid b8
  clear b8
  have B9 := Lib.hid b9
  clear b9
  have B10 := Lib.hid b10
  clear b10
  have B11 := Lib.hid b11
  clear b11
  have B12 := Lib.hid b12
  clear b12
  have B13 := Lib.hid b13
  clear b13
  have B14 := Lib.hid b14
  clear b14
  go_enter Tryd.func20, Tryd.ntmps20
  go_wp2_with fail
  refine (CO.out _).mono ?_
  rintro e w0 ⟨rfl, hn0⟩
  have H0 := Lib.hid (((Nx.refl w).alloc _).trans hn0)
  clear hn0
  go_wp2_with fail
  refine (in17n_any s _ [[99, 46, 97, 100, 100, 105, 52, 115, 112, 110]] (by decide) _ B0.out _ ⟨_, _, rfl, Or.inr ⟨_, rfl, Strs.new _ [[99, 46, 97, 100, 100, 105, 52, 115, 112, 110]] 9⟩⟩).mono ?_
  rintro e x0 ⟨rfl, hn1⟩
  have H0x := Lib.hid (H0.out.trans (((Nx.refl _).alloc _).trans hn1))
  clear hn1
  go_wp2_with fail
  refine (in17n_any s _ [[99, 46, 108, 119], [99, 46, 108, 119, 115, 112]] (by decide) _ B1.out _ ⟨_, _, rfl, Or.inr ⟨_, rfl, Strs.new _ [[99, 46, 108, 119], [99, 46, 108, 119, 115, 112]] 9⟩⟩).mono ?_
  rintro e x1 ⟨rfl, hn2⟩
  have H1x := Lib.hid (H0x.out.trans (((Nx.refl _).alloc _).trans hn2))
  clear hn2
  go_wp2_with fail
  refine (in17n_any s _ [[99, 46, 115, 119], [99, 46, 115, 119, 115, 112]] (by decide) _ B2.out _ ⟨_, _, rfl, Or.inr ⟨_, rfl, Strs.new _ [[99, 46, 115, 119], [99, 46, 115, 119, 115, 112]] 9⟩⟩).mono ?_
  rintro e x2 ⟨rfl, hn3⟩
  have H2x := Lib.hid (H1x.out.trans (((Nx.refl _).alloc _).trans hn3))
  clear hn3
  go_wp2_with fail
  refine (in17n_any s _ [[99, 46, 110, 111, 112], [99, 46, 101, 98, 114, 101, 97, 107], [110, 111, 112], [114, 101, 116]] (by decide) _ B3.out _ ⟨_, _, rfl, Or.inr ⟨_, rfl, Strs.new _ [[99, 46, 110, 111, 112], [99, 46, 101, 98, 114, 101, 97, 107], [110, 111, 112], [114, 101, 116]] 9⟩⟩).mono ?_
  rintro e x3 ⟨rfl, hn4⟩
  have H3x := Lib.hid (H2x.out.trans (((Nx.refl _).alloc _).trans hn4))
  clear hn4
  go_wp2_with fail
  refine (in17n_any s _ [[99, 46, 97, 100, 100, 105], [99, 46, 97, 100, 100, 105, 49, 54, 115, 112], [99, 46, 115, 114, 108, 105], [99, 46, 115, 114, 97, 105], [99, 46, 97, 110, 100, 105], [99, 46, 115, 108, 108, 105]] (by decide) _ B4.out _ ⟨_, _, rfl, Or.inr ⟨_, rfl, Strs.new _ [[99, 46, 97, 100, 100, 105], [99, 46, 97, 100, 100, 105, 49, 54, 115, 112], [99, 46, 115, 114, 108, 105], [99, 46, 115, 114, 97, 105], [99, 46, 97, 110, 100, 105], [99, 46, 115, 108, 108, 105]] 9⟩⟩).mono ?_
  rintro e x4 ⟨rfl, hn5⟩
  have H4x := Lib.hid (H3x.out.trans (((Nx.refl _).alloc _).trans hn5))
  clear hn5
  go_wp2_with fail
  refine (in17n_any s _ [[99, 46, 115, 117, 98], [99, 46, 120, 111, 114], [99, 46, 111, 114], [99, 46, 97, 110, 100], [99, 46, 97, 100, 100]] (by decide) _ B7.out _ ⟨_, _, rfl, Or.inr ⟨_, rfl, Strs.new _ [[99, 46, 115, 117, 98], [99, 46, 120, 111, 114], [99, 46, 111, 114], [99, 46, 97, 110, 100], [99, 46, 97, 100, 100]] 9⟩⟩).mono ?_
  rintro e x7 ⟨rfl, hn8⟩
  have H7x := Lib.hid (H4x.out.trans (((Nx.refl _).alloc _).trans hn8))
  clear hn8
  go_wp2_with fail
  refine (in17n_any s _ [[99, 46, 109, 118], [109, 118], [110, 101, 103], [115, 110, 101, 122]] (by decide) _ B8.out _ ⟨_, _, rfl, Or.inr ⟨_, rfl, Strs.new _ [[99, 46, 109, 118], [109, 118], [110, 101, 103], [115, 110, 101, 122]] 9⟩⟩).mono ?_
  rintro e x8 ⟨rfl, hn9⟩
  have H8x := Lib.hid (H7x.out.trans (((Nx.refl _).alloc _).trans hn9))
  clear hn9
  go_wp2_with fail
  refine (in17n_any s _ [[110, 111, 116], [115, 101, 113, 122]] (by decide) _ B9.out _ ⟨_, _, rfl, Or.inr ⟨_, rfl, Strs.new _ [[110, 111, 116], [115, 101, 113, 122]] 9⟩⟩).mono ?_
  rintro e x9 ⟨rfl, hn10⟩
  have H9x := Lib.hid (H8x.out.trans (((Nx.refl _).alloc _).trans hn10))
  clear hn10
  go_wp2_with fail
  refine (in17n_any s _ [[99, 46, 106, 97, 108], [99, 46, 106], [106]] (by decide) _ B10.out _ ⟨_, _, rfl, Or.inr ⟨_, rfl, Strs.new _ [[99, 46, 106, 97, 108], [99, 46, 106], [106]] 9⟩⟩).mono ?_
  rintro e x10 ⟨rfl, hn11⟩
  have H10x := Lib.hid (H9x.out.trans (((Nx.refl _).alloc _).trans hn11))
  clear hn11
  go_wp2_with fail
  refine (in17n_any s _ [[99, 46, 98, 101, 113, 122], [99, 46, 98, 110, 101, 122], [98, 101, 113, 122], [98, 110, 101, 122], [98, 103, 101, 122], [98, 108, 116, 122]] (by decide) _ B11.out _ ⟨_, _, rfl, Or.inr ⟨_, rfl, Strs.new _ [[99, 46, 98, 101, 113, 122], [99, 46, 98, 110, 101, 122], [98, 101, 113, 122], [98, 110, 101, 122], [98, 103, 101, 122], [98, 108, 116, 122]] 9⟩⟩).mono ?_
  rintro e x11 ⟨rfl, hn12⟩
  have H11x := Lib.hid (H10x.out.trans (((Nx.refl _).alloc _).trans hn12))
  clear hn12
  go_wp2_with fail
  refine (in17n_any s _ [[98, 108, 101, 122], [98, 103, 116, 122]] (by decide) _ B12.out _ ⟨_, _, rfl, Or.inr ⟨_, rfl, Strs.new _ [[98, 108, 101, 122], [98, 103, 116, 122]] 9⟩⟩).mono ?_
  rintro e x12 ⟨rfl, hn13⟩
  have H12x := Lib.hid (H11x.out.trans (((Nx.refl _).alloc _).trans hn13))
  clear hn13
  go_wp2_with fail
  refine (in17n_any s _ [[98, 103, 116], [98, 108, 101], [98, 103, 116, 117], [98, 108, 101, 117]] (by decide) _ B13.out _ ⟨_, _, rfl, Or.inr ⟨_, rfl, Strs.new _ [[98, 103, 116], [98, 108, 101], [98, 103, 116, 117], [98, 108, 101, 117]] 9⟩⟩).mono ?_
  rintro e x13 ⟨rfl, hn14⟩
  have H13x := Lib.hid (H12x.out.trans (((Nx.refl _).alloc _).trans hn14))
  clear hn14
  go_wp2_with fail
  refine (in17n_any s _ [[99, 46, 106, 114], [99, 46, 106, 97, 108, 114], [106, 114]] (by decide) _ B14.out _ ⟨_, _, rfl, Or.inr ⟨_, rfl, Strs.new _ [[99, 46, 106, 114], [99, 46, 106, 97, 108, 114], [106, 114]] 9⟩⟩).mono ?_
  rintro e x14 ⟨rfl, hn15⟩
  have H14x := Lib.hid (H13x.out.trans (((Nx.refl _).alloc _).trans hn15))
  clear hn15
  by_cases hn : 1 = n
  · have en : ((1 : Int) == n) = true := by rw [beq_iff_eq]; omega
    go_wp2
    go_ret2
    exact ret_lq_yes hn H14x.out
  · have en : ((1 : Int) == n) = false := by rw [beq_eq_false_iff_ne]; omega
    go_wp2
    go_ret2
    exact ret_lq_no hn H14x.out

theorem letters17_sh (m : Nat) (hm : m < 27) (n : Nat) (w : World) :
    Calls Tryd.prog 20 #[.string (B (shB.getD m [])), .int .i64 n] w (RetLq (letSL.getD m []) n w) := by
  have ho : ∀ m < 27, opP (shB.getD m []) = 0 := by decide +kernel
  have h := ho m hm
  rcases (by omega : m = 0 ∨ m = 1 ∨ m = 2 ∨ m = 3 ∨ m = 4 ∨ m = 5 ∨ m = 6 ∨ m = 7 ∨ m = 8 ∨ m = 9 ∨ m = 10 ∨ m = 11 ∨ m = 12 ∨ m = 13 ∨ m = 14 ∨ m = 15 ∨ m = 16 ∨ m = 17 ∨ m = 18 ∨ m = 19 ∨ m = 20 ∨ m = 21 ∨ m = 22 ∨ m = 23 ∨ m = 24 ∨ m = 25 ∨ m = 26) with rfl | rfl | rfl | rfl | rfl | rfl | rfl | rfl | rfl | rfl | rfl | rfl | rfl | rfl | rfl | rfl | rfl | rfl | rfl | rfl | rfl | rfl | rfl | rfl | rfl | rfl | rfl
  · exact letters17_s0 _ n (by decide) (by decide) h (by decide) w
  · exact letters17_s1 _ n (by decide) (by decide) h (by decide) (by decide) w
  · exact letters17_s2 _ n (by decide) (by decide) h (by decide) (by decide) (by decide) w
  · exact letters17_s3 _ n (by decide) (by decide) h (by decide) (by decide) (by decide) (by decide) w
  · exact letters17_s4 _ n (by decide) (by decide) h (by decide) (by decide) (by decide) (by decide) (by decide) w
  · exact letters17_s10 _ n (by decide) (by decide) h (by decide) (by decide) (by decide) (by decide) (by decide) (by decide) (by decide) (by decide) (by decide) (by decide) (by decide) w
  · exact letters17_s5 _ n (by decide) (by decide) h (by decide) (by decide) (by decide) (by decide) (by decide) (by decide) w
  · exact letters17_s4 _ n (by decide) (by decide) h (by decide) (by decide) (by decide) (by decide) (by decide) w
  · exact letters17_s6 _ n (by decide) (by decide) h (by decide) (by decide) (by decide) (by decide) (by decide) (by decide) (by decide) w
  · exact letters17_s4 _ n (by decide) (by decide) h (by decide) (by decide) (by decide) (by decide) (by decide) w
  · exact letters17_s4 _ n (by decide) (by decide) h (by decide) (by decide) (by decide) (by decide) (by decide) w
  · exact letters17_s4 _ n (by decide) (by decide) h (by decide) (by decide) (by decide) (by decide) (by decide) w
  · exact letters17_s7 _ n (by decide) (by decide) h (by decide) (by decide) (by decide) (by decide) (by decide) (by decide) (by decide) (by decide) w
  · exact letters17_s7 _ n (by decide) (by decide) h (by decide) (by decide) (by decide) (by decide) (by decide) (by decide) (by decide) (by decide) w
  · exact letters17_s7 _ n (by decide) (by decide) h (by decide) (by decide) (by decide) (by decide) (by decide) (by decide) (by decide) (by decide) w
  · exact letters17_s7 _ n (by decide) (by decide) h (by decide) (by decide) (by decide) (by decide) (by decide) (by decide) (by decide) (by decide) w
  · exact letters17_s10 _ n (by decide) (by decide) h (by decide) (by decide) (by decide) (by decide) (by decide) (by decide) (by decide) (by decide) (by decide) (by decide) (by decide) w
  · exact letters17_s11 _ n (by decide) (by decide) h (by decide) (by decide) (by decide) (by decide) (by decide) (by decide) (by decide) (by decide) (by decide) (by decide) (by decide) (by decide) w
  · exact letters17_s11 _ n (by decide) (by decide) h (by decide) (by decide) (by decide) (by decide) (by decide) (by decide) (by decide) (by decide) (by decide) (by decide) (by decide) (by decide) w
  · exact letters17_s4 _ n (by decide) (by decide) h (by decide) (by decide) (by decide) (by decide) (by decide) w
  · exact letters17_s1 _ n (by decide) (by decide) h (by decide) (by decide) w
  · exact letters17_s14 _ n (by decide) (by decide) h (by decide) (by decide) (by decide) (by decide) (by decide) (by decide) (by decide) (by decide) (by decide) (by decide) (by decide) (by decide) (by decide) (by decide) (by decide) w
  · exact letters17_s8 _ n (by decide) (by decide) h (by decide) (by decide) (by decide) (by decide) (by decide) (by decide) (by decide) (by decide) (by decide) w
  · exact letters17_s3 _ n (by decide) (by decide) h (by decide) (by decide) (by decide) (by decide) w
  · exact letters17_s14 _ n (by decide) (by decide) h (by decide) (by decide) (by decide) (by decide) (by decide) (by decide) (by decide) (by decide) (by decide) (by decide) (by decide) (by decide) (by decide) (by decide) (by decide) w
  · exact letters17_s7 _ n (by decide) (by decide) h (by decide) (by decide) (by decide) (by decide) (by decide) (by decide) (by decide) (by decide) w
  · exact letters17_s2 _ n (by decide) (by decide) h (by decide) (by decide) (by decide) w

end Go.Proofs.YtdgmdkkockbkjaaDoor
