/- Parts of the proof, one behind the other. -/
import Derived.Test.YtbkgdepblaibkaaDoorRtj
import Derived.Test.YtbkgdepblaibkaaDoorBlkz
import Derived.Test.YtbkgdepblaibkaaDoorLxj
import Derived.Test.YtbkgdepblaibkaaDoorFau
import Derived.Lib.SlBytesConst
import Derived.Test.YtbkgdepblaibkaaDoorMadf
/- Contracts of typecaseref10: Same, at the same lines. -/
namespace Go.Proofs.YtbkgdepblaibkaaDoor
open Go.RowKit
set_option linter.unusedVariables false
set_option linter.unusedSimpArgs false

theorem neq_tok (a b c : Int) (s : List UInt8) (d e : Int) (w : World) : (binOp .neq 58 (.agg #[.int .i64 a, .int .i64 b, .int .i64 c, .string (B s), .int .u32 d, .int .i64 e]) (.agg #[.int .i64 a, .int .i64 b, .int .i64 c, .string (B s), .int .u32 d, .int .i64 e])).run Tryd.prog w = .ok (.bool false) w := by
  simp [go_sem]

set_option maxHeartbeats 2000000 in
set_option maxRecDepth 100000 in
theorem same_any (v u : Value) (ls : List (List Tok)) (w : World) (h1 : Lins w v ls) (h2 : Lins w u ls) : Calls Tryd.prog 31 #[v, u] w fun e w' => e = .returned (.bool true) ∧ Nx w w' := by
  have H1 := Lib.hid h1
  have H2 := Lib.hid h2
  obtain ⟨A1, c1, rfl, hm1, hm2, _⟩ := h1.form
  obtain ⟨A2, c2, rfl, _, _, _⟩ := h2.form
  have hn1 : ls.length ≤ 9223372036854775807 := by unfold maxLen at hm2; omega
  have bl : ((ls.length : Int) != ls.length) = false := by simp
  clear h1 h2 hm1 hm2
  go_enter Tryd.func31, Tryd.ntmps31
  go_wp2
  go_loopw [5] (fun iv wr => ∃ i : Nat, i ≤ ls.length ∧ iv = .int .i64 i ∧ Nx w wr) (fun iv _ => ls.length - (intOf iv).toNat)
  case atStart => exact ⟨0, Nat.zero_le _, rfl, Nx.refl w⟩
  case round =>
    obtain ⟨i, hi, rfl, hnx⟩ := hrel
    obtain ⟨wo, rfl⟩ : ∃ wo : World, wo = wr := ⟨_, rfl⟩
    have HNX := Lib.hid hnx
    clear hnx
    by_cases hlt : i < ls.length
    · obtain ⟨l, hl⟩ : ∃ l, ls[i]? = some l := ⟨_, List.getElem?_eq_getElem hlt⟩
      obtain ⟨g1, o1, d1, x1, he1, _, hc1, ht1⟩ := line_at H1.out i l hl
      obtain ⟨g2, o2, d2, x2, he2, _, hc2, ht2⟩ := line_at H2.out i l hl
      cases he1
      cases he2
      have k1 := HNX.out.cell hc1
      have k2 := HNX.out.cell hc2
      have z1 := block_lt k1
      have z2 := block_lt k2
      obtain ⟨B1, e1, rfl, hp1, hp2, hB1⟩ := ht1.form
      have hlb : l.length ≤ 9223372036854775807 := by unfold maxLen at hp2; omega
      clear hp1 hp2
      obtain ⟨B2, e2, rfl, _, _, hB2⟩ := ht2.form
      have HB1 := Lib.hid hB1
      have HB2 := Lib.hid hB2
      have HC1 := Lib.hid hc1
      have HC2 := Lib.hid hc2
      have bl2 : ((l.length : Int) != l.length) = false := by simp
      clear hl ht1 ht2 hB1 hB2 hc1 hc2
      go_wp2
      go_quiet (fail)
      go_wp2
      go_loopw [6] (fun kv wr => ∃ k : Nat, k ≤ l.length ∧ kv = .int .i64 k ∧ Nx w wr) (fun kv _ => l.length - (intOf kv).toNat)
      case atStart => exact ⟨0, Nat.zero_le _, rfl, HNX.out.drewN _⟩
      case round =>
        obtain ⟨k, hk, rfl, hnx⟩ := hrel
        have HNI := Lib.hid hnx
        have k1 := HNI.out.cell HC1.out
        have k2 := HNI.out.cell HC2.out
        have z1 := block_lt k1
        have z2 := block_lt k2
        clear hnx
        by_cases hkl : k < l.length
        · obtain ⟨⟨kd, ln, cl, tx, nm, sc⟩, ht⟩ : ∃ t, l[k]? = some t := ⟨_, List.getElem?_eq_getElem hkl⟩
          obtain ⟨p1, q1, rfl, hT1⟩ : ∃ g o, B1 = some ⟨g, o, none⟩ ∧ TokAt w g o l := by
            rcases HB1.out with ⟨_, h, _⟩ | h
            · subst h; cases ht
            · exact h
          obtain ⟨p2, q2, rfl, hT2⟩ : ∃ g o, B2 = some ⟨g, o, none⟩ ∧ TokAt w g o l := by
            rcases HB2.out with ⟨_, h, _⟩ | h
            · subst h; cases ht
            · exact h
          obtain ⟨a0, a1, a2, a3, a4, a5⟩ := (hT1.nx HNI.out).at_ k _ ht
          obtain ⟨b0, b1, b2, b3, b4, b5⟩ := (hT2.nx HNI.out).at_ k _ ht
          dsimp only at a0 a1 a2 a3 a4 a5 b0 b1 b2 b3 b4 b5
          have y1 := block_lt a0
          have y2 := block_lt b0
          have q := fun w => neq_tok kd ln cl tx nm sc w
          clear ht hT1 hT2
          go_wp2
          go_quiet (fail)
          go_wp2
          go_roundw
          case rel => exact ⟨k + 1, by omega, by go_num, HNI.out.drewN _⟩
          case measure => simp [intOf]; omega
        · obtain rfl : k = l.length := by omega
          go_wp2
          go_roundw
          case rel => exact ⟨i + 1, by omega, by go_num, HNI.out⟩
          case measure => simp [intOf]; omega
    · obtain rfl : i = ls.length := by omega
      go_wp2
      go_ret
      exact ⟨rfl, HNX.out⟩

end Go.Proofs.YtbkgdepblaibkaaDoor

/- Package typecaselaw10: awake; the walk of LexLines. -/
namespace Go.Proofs.YtbkgdepblaibkaaDoor
open Go.RowKit
set_option linter.unusedVariables false
set_option linter.unusedSimpArgs false

theorem bys_of (w : World) (l : List UInt8) (fz : Nat × Nat) (hl : l.length ≤ maxLen) : Bys (w.alloc (.cells (l.map fun b => Value.int .u8 b.toNat).toArray 5 fz)) (.slice (some ⟨w.heap.size, 0, none⟩) l.length l.length) l := by
  refine Or.inr ⟨w.heap.size, 0, l.length, rfl, Nat.le_refl _, hl, fun k b hk => ?_⟩
  rw [Nat.zero_add]
  refine (Has.new w (.cells (l.map fun b => Value.int .u8 b.toNat).toArray 5 fz)).cell k _ ?_
  simp [hk]

theorem eql_fl (a b c : Int) (w : World) : (binOp .eql 30 (.agg #[.int .i64 a, .int .i64 b, .int .i64 c]) (.agg #[.int .i64 a, .int .i64 b, .int .i64 c])).run Tryd.prog w = .ok (.bool true) w := by
  simp [go_sem]

theorem eql_tok (a b c : Int) (s : List UInt8) (d e : Int) (w : World) : (binOp .eql 58 (.agg #[.int .i64 a, .int .i64 b, .int .i64 c, .string (B s), .int .u32 d, .int .i64 e]) (.agg #[.int .i64 a, .int .i64 b, .int .i64 c, .string (B s), .int .u32 d, .int .i64 e])).run Tryd.prog w = .ok (.bool true) w := by
  simp [go_sem]

def aw10A : List UInt8 := [108, 105, 32, 97, 48, 44, 32, 48, 120, 49, 70, 32, 35, 32, 120]

def aw10B : List UInt8 := [10, 32, 32, 36]

def aw10L : List (List Tok) := [[⟨1, 1, 1, [108, 105], 0, 0⟩, ⟨1, 1, 4, [97, 48], 0, 0⟩, ⟨7, 1, 6, [44], 0, 0⟩, ⟨5, 1, 8, [], 31, 0⟩]]

theorem aw10_a : srcR aw10A = .ok aw10L := by kernel_rfl

theorem aw10_b : srcR aw10B = .bad 2 3 2 := by kernel_rfl

theorem aw10_l1 (w : World) (v : Value) (hE : ErrT w) (hB : Bys w v aw10A) : Calls Tryd.prog 42 #[v] w fun e w' => ∃ u, e = .returned (.tuple #[u, .nilIface]) ∧ Nx w w' ∧ Lins w' u aw10L := by
  refine (llines_any v aw10A w hE hB (by decide)).mono ?_
  rintro e w' ⟨u, ev, rfl, hn, ⟨ls, h, hL, rfl⟩ | ⟨a, b, c, h, _⟩⟩
  · rw [aw10_a] at h; cases h; exact ⟨u, rfl, hn, hL⟩
  · rw [aw10_a] at h; cases h

theorem aw10_l2 (w : World) (v : Value) (hE : ErrT w) (hB : Bys w v aw10B) : Calls Tryd.prog 42 #[v] w fun e w' => ∃ ev, e = .returned (.tuple #[.slice none 0 0, ev]) ∧ Nx w w' ∧ FaultIs w' ev 2 3 2 := by
  refine (llines_any v aw10B w hE hB (by decide)).mono ?_
  rintro e w' ⟨u, ev, rfl, hn, ⟨ls, h, _⟩ | ⟨a, b, c, h, rfl, hF, _⟩⟩
  · rw [aw10_b] at h; cases h
  · rw [aw10_b] at h; cases h; exact ⟨ev, rfl, hn, hF⟩

set_option maxHeartbeats 2000000 in
set_option maxRecDepth 100000 in
theorem awakel_any (w : World) (hE : ErrT w) : Calls Tryd.prog 41 #[] w fun e w' => e = .returned (.bool true) ∧ Nx w w' := by
  have HE := Lib.hid hE
  have HB := Lib.hid (show Bys (w.alloc (.cells #[.int .u8 108, .int .u8 105, .int .u8 32, .int .u8 97, .int .u8 48, .int .u8 44, .int .u8 32, .int .u8 48, .int .u8 120, .int .u8 49, .int .u8 70, .int .u8 32, .int .u8 35, .int .u8 32, .int .u8 120] 5 (15, 16))) (.slice (some ⟨w.heap.size, 0, none⟩) 15 15) aw10A from bys_of w aw10A _ (by decide))
  have HB2 := Lib.hid (fun w => (show Bys (w.alloc (.cells #[.int .u8 10, .int .u8 32, .int .u8 32, .int .u8 36] 5 (4, 5))) (.slice (some ⟨w.heap.size, 0, none⟩) 4 4) aw10B from bys_of w aw10B _ (by decide)))
  have kc := fun (w : World) (C : Array Value) (n c : Nat) => Lib.run_convert_bytes_const (P := Tryd.prog) w 70 5 C n c Tryd.underlying70 Tryd.underlying5
  clear hE
  go_enter Tryd.func41, Tryd.ntmps41
  go_wp2_with fail
  refine (aw10_l1 _ _ (HE.out.nx ((Nx.refl w).alloc _)) HB.out).mono ?_
  rintro e w1 ⟨u, rfl, hn1, hL⟩
  have H1 := Lib.hid (((Nx.refl w).alloc _).trans hn1)
  have HL := Lib.hid hL
  obtain ⟨A, c, rfl, hc1, hc2, _⟩ := hL.form
  clear hn1 hL HB
  go_wp2_with fail
  refine (aw10_l2 _ _ (HE.out.nx (H1.out.alloc _)) (HB2.out _)).mono ?_
  rintro e w2 ⟨ev, rfl, hn2, hF⟩
  have H2 := Lib.hid ((H1.out.alloc _).trans hn2)
  have HL2 := Lib.hid ((HL.out.nx ((Nx.refl _).alloc _)).nx hn2)
  have HF := Lib.hid hF
  clear hn2 hF HB2
  obtain ⟨g, o, c', u, he, _, hcell, hT⟩ := line_at HL2.out 0 _ rfl
  cases he
  obtain ⟨A3, c3, rfl, _, _, hA3⟩ := hT.form
  obtain ⟨g3, o3, rfl, hT3⟩ : ∃ g o, A3 = some ⟨g, o, none⟩ ∧ TokAt w2 g o [⟨1, 1, 1, [108, 105], 0, 0⟩, ⟨1, 1, 4, [97, 48], 0, 0⟩, ⟨7, 1, 6, [44], 0, 0⟩, ⟨5, 1, 8, [], 31, 0⟩] := by
    rcases hA3 with ⟨_, h, _⟩ | h
    · cases h
    · exact h
  obtain ⟨a0, a1, a2, a3, a4, a5⟩ := hT3.head
  obtain ⟨b0, b1, b2, b3, b4, b5⟩ := hT3.at_ 3 _ rfl
  dsimp only at a0 a1 a2 a3 a4 a5 b0 b1 b2 b3 b4 b5
  have q0 := fun w => eql_tok 1 1 1 [108, 105] 0 0 w
  have q1 := fun w => eql_tok 5 1 8 [] 31 0 w
  have q2 := fun w => eql_fl 2 3 2 w
  rw [Nat.add_zero] at hcell
  clear hA3 hT hT3
  go_wp2_with fail
  refine (fault_is ev 2 3 2 _ (HE.out.nx H2.out) HF.out (by decide) (by decide)).mono ?_
  rintro e w4 ⟨rfl, hn4⟩
  have H4 := Lib.hid (H2.out.trans hn4)
  clear hn4
  go_wp2
  go_ret
  exact ⟨rfl, H4.out⟩

end Go.Proofs.YtbkgdepblaibkaaDoor

/- Package typecaselaw14: awake. -/
namespace Go.Proofs.YtbkgdepblaibkaaDoor
open Go.RowKit
set_option linter.unusedVariables false
set_option linter.unusedSimpArgs false

def aw14S : List UInt8 := [46, 109, 97, 99, 114, 111, 32, 109, 32, 97, 44, 32, 98, 61, 49, 43, 50, 10, 40, 120, 44, 121, 41, 44, 10, 46, 109, 97, 99, 114, 111, 32, 46, 109]

def aw14M : List UInt8 := [46, 109, 97, 99, 114, 111]

def aw14A : List Tok := [⟨1, 1, 1, aw14M, 0, 0⟩, ⟨1, 1, 8, [109], 0, 0⟩, ⟨1, 1, 10, [97], 0, 0⟩, ⟨7, 1, 11, [44], 0, 0⟩, ⟨1, 1, 13, [98], 0, 0⟩, ⟨7, 1, 14, [61], 0, 0⟩, ⟨5, 1, 15, [], 1, 0⟩, ⟨7, 1, 16, [43], 0, 0⟩, ⟨5, 1, 17, [], 2, 0⟩]

def aw14B : List Tok := [⟨7, 2, 1, [40], 0, 0⟩, ⟨1, 2, 2, [120], 0, 0⟩, ⟨7, 2, 3, [44], 0, 0⟩, ⟨1, 2, 4, [121], 0, 0⟩, ⟨7, 2, 5, [41], 0, 0⟩, ⟨7, 2, 6, [44], 0, 0⟩]

def aw14C : List Tok := [⟨1, 3, 1, aw14M, 0, 0⟩, ⟨1, 3, 8, [46, 109], 0, 0⟩]

def aw14D : List Tok := [⟨5, 1, 15, [], 1, 0⟩, ⟨7, 1, 16, [43], 0, 0⟩, ⟨5, 1, 17, [], 2, 0⟩]

theorem aw14_src : srcR aw14S = .ok [aw14A, aw14B, aw14C] := by kernel_rfl

theorem aw14_head : headP aw14A = .ok [109] [⟨[97], false, []⟩, ⟨[98], true, aw14D⟩] := by kernel_rfl

theorem aw14_bad : headP aw14C = .bad 3 8 8 := by kernel_rfl

theorem aw14_parts : partP aw14B = [aw14B.take 5, []] := by kernel_rfl

theorem aw14_bind : bindP [⟨[97], false, []⟩, ⟨[98], true, aw14D⟩] [aw14B.take 5, []] = some [aw14B.take 5, aw14D] := by kernel_rfl

theorem two_of (qs : List (PPar × Value)) (p q : PPar) (h : [p, q] = qs.map (·.1)) : ∃ a b, qs = [(p, a), (q, b)] := by
  match qs, h with
  | [(x, a), (y, b)], h =>
    simp only [List.map_cons, List.map_nil, List.cons.injEq, and_true] at h
    obtain ⟨rfl, rfl⟩ := h
    exact ⟨a, b, rfl⟩

theorem aw14_bindc (pv : Value) (d0 d1 : Value) (w : World) (hP : ParsQ w pv [(⟨[97], false, []⟩, d0), (⟨[98], true, aw14D⟩, d1)]) (av : Value) (hL : Lins w av [aw14B.take 5, []]) :
    Calls Tryd.prog 36 #[.agg #[.string (B [109]), pv, .slice none 0 0], .agg #[.int .i64 0, .int .i64 0, .int .i64 0, .string (B []), .int .u32 0, .int .i64 0], av] w fun e w' => ∃ v, e = .returned (.tuple #[v, .nilIface]) ∧ Nx w w' ∧ OwnL w' w.heap.size v [aw14B.take 5, aw14D] := by
  refine (bind_any [109] pv _ _ ⟨_, _, _, rfl⟩ tok0 av _ w hP hL (by simp) (by decide) (by
    intro q hq
    simp at hq
    rcases hq with rfl | rfl
    · exact Nat.zero_le _
    · show aw14D.length ≤ _
      decide)).mono ?_
  rintro e w' ⟨v, ev, rfl, hn, ⟨vs, hV, hO, rfl⟩ | ⟨hV, _⟩⟩
  · have hV : bindP [⟨[97], false, []⟩, ⟨[98], true, aw14D⟩] [aw14B.take 5, []] = some vs := hV
    rw [aw14_bind] at hV
    cases hV
    exact ⟨v, rfl, hn, hO⟩
  · have hV : bindP [⟨[97], false, []⟩, ⟨[98], true, aw14D⟩] [aw14B.take 5, []] = none := hV
    rw [aw14_bind] at hV
    cases hV

theorem aw14_partsc (v : Value) (w : World) (hT : Toks w v aw14B) : Calls Tryd.prog 32 #[v] w fun e w' => ∃ v, e = .returned v ∧ Nx w w' ∧ OwnL w' w.heap.size v [aw14B.take 5, []] := by
  refine (parts_any v aw14B w hT (by decide)).mono ?_
  rintro e w' ⟨u, rfl, hn, hO⟩
  rw [aw14_parts] at hO
  exact ⟨u, rfl, hn, hO⟩

set_option maxHeartbeats 4000000 in
set_option maxRecDepth 100000 in
theorem awakem_any (w : World) (hE : ErrT w) : Calls Tryd.prog 26 #[] w fun e w' => e = .returned (.bool true) ∧ Nx w w' := by
  have HE := Lib.hid hE
  have HB := Lib.hid (show Bys (w.alloc (.cells #[.int .u8 46, .int .u8 109, .int .u8 97, .int .u8 99, .int .u8 114, .int .u8 111, .int .u8 32, .int .u8 109, .int .u8 32, .int .u8 97, .int .u8 44, .int .u8 32, .int .u8 98, .int .u8 61, .int .u8 49, .int .u8 43, .int .u8 50, .int .u8 10, .int .u8 40, .int .u8 120, .int .u8 44, .int .u8 121, .int .u8 41, .int .u8 44, .int .u8 10, .int .u8 46, .int .u8 109, .int .u8 97, .int .u8 99, .int .u8 114, .int .u8 111, .int .u8 32, .int .u8 46, .int .u8 109] 5 (34, 35))) (.slice (some ⟨w.heap.size, 0, none⟩) 34 34) aw14S from bys_of w aw14S _ (by decide))
  have kc := fun (w : World) (C : Array Value) (n c : Nat) => Lib.run_convert_bytes_const (P := Tryd.prog) w 70 5 C n c Tryd.underlying70 Tryd.underlying5
  clear hE
  go_enter Tryd.func26, Tryd.ntmps26
  go_wp2_with fail
  refine (lines_any _ _ _ HB.out (by decide)).mono ?_
  rintro e w1 ⟨v, fa, fb, fc, rfl, hn1, ⟨ls, hV, hL, rfl, rfl, rfl⟩ | ⟨hV, _⟩⟩
  rotate_left
  · rw [aw14_src] at hV; cases hV
  rw [aw14_src] at hV
  cases hV
  have H1 := Lib.hid (((Nx.refl w).alloc _).trans hn1)
  have HL := Lib.hid hL
  obtain ⟨g, o, c', u0, he, hc3, hc0, hT0⟩ := line_at HL.out 0 aw14A rfl
  obtain ⟨_, _, _, u1, he1, _, hc1, hT1⟩ := line_at HL.out 1 aw14B rfl
  obtain ⟨_, _, _, u2, he2, _, hc2, hT2⟩ := line_at HL.out 2 aw14C rfl
  subst he
  cases he1
  cases he2
  obtain ⟨A0, c0, rfl, _⟩ := hT0.form
  obtain ⟨A1, c1, rfl, _⟩ := hT1.form
  obtain ⟨A2, c2, rfl, _⟩ := hT2.form
  have HT0 := Lib.hid hT0
  have HT1 := Lib.hid hT1
  have HT2 := Lib.hid hT2
  rw [Nat.add_zero] at hc0
  have z0 := block_lt hc0
  clear hn1 hL hT0 hT1 hT2 HB
  go_wp2_with fail
  refine (head_any _ _ _ (HE.out.nx (H1.out.alloc _)) (HT0.out.nx ((Nx.refl w1).alloc _)) (by decide)).mono ?_
  rintro e w2 ⟨name, pv, qs, ev, rfl, hn2, ⟨hV, rfl, hP, _⟩ | ⟨a, b, c, hV, _⟩⟩
  rotate_left
  · rw [aw14_head] at hV; cases hV
  rw [aw14_head] at hV
  injection hV with hV1 hV2
  subst hV1
  obtain ⟨d0, d1, rfl⟩ := two_of _ _ _ hV2
  clear hV2
  have HPQ := Lib.hid hP
  obtain ⟨A3, c3, rfl, _, _, hA3⟩ := hP.1.form
  obtain ⟨g3, o3, rfl, hPA⟩ : ∃ g o, A3 = some ⟨g, o, none⟩ ∧ ParAt w2 g o [(⟨[97], false, []⟩, d0), (⟨[98], true, aw14D⟩, d1)] := by
    rcases hA3 with ⟨_, h, _⟩ | h
    · cases h
    · exact h
  have hTd := hP.2 (⟨[98], true, aw14D⟩, d1) (by simp)
  obtain ⟨dA, dc, hd1, _⟩ := hTd.form
  dsimp only at hd1
  subst hd1
  obtain ⟨b0, b1, b2⟩ := hPA.at_ 1 _ rfl
  dsimp only at b0 b1 b2
  have H2 := Lib.hid ((H1.out.alloc (.cells #[.int .i64 0, .int .i64 0, .int .i64 0] 30)).trans hn2)
  have HL2 := Lib.hid (hn2.cell (((Nx.refl w1).alloc (.cells #[.int .i64 0, .int .i64 0, .int .i64 0] 30)).cell hc2))
  have HL1 := Lib.hid (hn2.cell (((Nx.refl w1).alloc (.cells #[.int .i64 0, .int .i64 0, .int .i64 0] 30)).cell hc1))
  have HT1 := Lib.hid ((HT1.out.nx ((Nx.refl w1).alloc (.cells #[.int .i64 0, .int .i64 0, .int .i64 0] 30))).nx hn2)
  have HT2 := Lib.hid ((HT2.out.nx ((Nx.refl w1).alloc (.cells #[.int .i64 0, .int .i64 0, .int .i64 0] 30))).nx hn2)
  have HB1 := Lib.hid b1
  have HB2 := Lib.hid b2
  clear hn2 hP hPA hA3 hTd hc0 hc1 hc2 b0 b1 b2 z0 HL
  have l2 := HL2.out
  have z2 := block_lt l2
  go_wp2_with fail
  refine (head_any _ _ _ (HE.out.nx (H2.out.alloc _)) (HT2.out.nx ((Nx.refl w2).alloc _)) (by decide)).mono ?_
  rintro e w3 ⟨name, pv, qs, ev, rfl, hn3, ⟨hV, _⟩ | ⟨a, b, c, hV, rfl, rfl, rfl, hF, _⟩⟩
  · rw [aw14_bad] at hV; cases hV
  rw [aw14_bad] at hV
  cases hV
  have HFF := Lib.hid hF
  obtain ⟨gf, of, rfl, _⟩ := hF
  have K3 := Lib.hid hn3
  have HQ3 := Lib.hid (Has.nx (Has.new w2 (.cells #[.string (B [109]), .slice (some ⟨g3, o3, none⟩) 2 c3, .slice none 0 0] 44)) hn3)
  have H3 := Lib.hid ((H2.out.alloc _).trans hn3)
  have N23 := Lib.hid (((Nx.refl w2).alloc (.cells #[.string (B [109]), .slice (some ⟨g3, o3, none⟩) 2 c3, .slice none 0 0] 44)).trans hn3)
  have l1 := N23.out.cell HL1.out
  have m0 : w3.cell? ⟨w2.heap.size, 0, none⟩ = some (.string (B [109])) := HQ3.out.cell 0 _ rfl
  have m1 : w3.cell? ⟨w2.heap.size, 1, none⟩ = some (.slice (some ⟨g3, o3, none⟩) 2 c3) := HQ3.out.cell 1 _ rfl
  have m2 : w3.cell? ⟨w2.heap.size, 2, none⟩ = some (.slice none 0 0) := HQ3.out.cell 2 _ rfl
  have zq := HQ3.out.lt
  have zl := block_lt l1
  have hlm : aw14B.length = 6 := rfl
  clear hn3 l2 z2
  go_wp2
  have HTW := Lib.hid (fun w' (h : Nx w3 w') => HT1.out.nx (N23.out.trans h))
  have HPW := Lib.hid (fun w' (h : Nx w3 w') => HPQ.out.nx (N23.out.trans h))
  go_region_with (first | (go_at_call 32; refine (aw14_partsc _ _ (HTW.out _ (by repeat (with_reducible first | exact Nx.refl _ | refine Nx.drew ?_ | refine Nx.alloc ?_ _)))).mono ?_; rintro e w4 ⟨v4, rfl, hn4, hO4⟩; have N4 : Nx w3 w4 := Nx.trans (by repeat (with_reducible first | exact Nx.refl _ | refine Nx.drew ?_ | refine Nx.alloc ?_ _)) hn4; have m0' := N4.cell m0; have m1' := N4.cell m1; have m2' := N4.cell m2; have zq' := Nat.lt_of_lt_of_le zq N4.size) | (go_at_call 36; refine (aw14_bindc _ d0 _ _ (HPW.out _ N4) _ hO4.lins).mono ?_; rintro e w5 ⟨v5, rfl, hn5, hO5⟩))
  all_goals
    have N5 := Lib.hid (N4.trans hn5)
    have HL5 := Lib.hid hO5.lins
    have HF5 := Lib.hid (HFF.out.nx N5.out)
    have x1 := N5.out.cell m1
    have x2 := (N23.out.trans N5.out).cell HB1.out
    have x3 := (N23.out.trans N5.out).cell HB2.out
    have y1 := block_lt x1
    have y2 := block_lt x2
    obtain ⟨g5, o5, c5, s0, he, hc5, hs0, hS0⟩ := line_at HL5.out 0 _ rfl
    obtain ⟨_, _, _, s1, he1, _, hs1, hS1⟩ := line_at HL5.out 1 _ rfl
    subst he
    cases he1
    obtain ⟨X0, k0, rfl, _⟩ := hS0.form
    obtain ⟨X1, k1, rfl, _⟩ := hS1.form
    rw [Nat.add_zero] at hs0
    have y3 := block_lt hs0
    have HC5 := Lib.hid (HL5.out)
    have HS0 := Lib.hid hs0
    have HS1 := Lib.hid hs1
    have q2 := fun w => eql_fl 3 8 8 w
    clear hn4 hn5 hO4 hO5 N4 m0 m1 m2 m0' m1' m2' zq zq' l1 zl hS0 hS1
    go_wp2_with fail
    refine (fault_is _ 3 8 8 _ (HE.out.nx (H3.out.trans N5.out)) HF5.out (by decide) (by decide)).mono ?_
    rintro e w6 ⟨rfl, hn6⟩
    have t0 := hn6.cell HS0.out
    have t1 := hn6.cell HS1.out
    have y6 := block_lt t0
    have e5 : (aw14B.take 5).length = 5 := rfl
    have e3 : aw14D.length = 3 := rfl
    have H6 := Lib.hid ((H3.out.trans N5.out).trans hn6)
    clear hn6
    go_wp2
    go_ret
    exact ⟨rfl, H6.out⟩

end Go.Proofs.YtbkgdepblaibkaaDoor

