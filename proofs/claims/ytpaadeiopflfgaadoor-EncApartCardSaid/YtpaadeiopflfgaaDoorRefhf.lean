/- Contracts of package typecaseref08: where the number of a form lies. -/
import Derived.Test.YtpaadeiopflfgaaDoorRefh
namespace Go.Proofs.YtpaadeiopflfgaaDoor
open Go.RowKit
set_option linter.unusedVariables false
set_option linter.unusedSimpArgs false

/-- A slice of these ints comes back. -/
def RetL (w : World) (n : Nat) (l : List Int) (e : Ending) (w' : World) : Prop := ∃ g c, e = .returned (.slice (some ⟨g, 0, none⟩) n c) ∧ Ints w' g l ∧ Nx w w'

set_option maxHeartbeats 1000000 in
theorem places_1 (w : World) : Calls Tryd.prog 22 #[.int .i64 1] w (RetL w 32 ([31, 30, 29, 28, 27, 26, 25, 24, 23, 22, 21, 20, 19, 18, 17, 16, 15, 14, 13, 12] ++ [-1, -1, -1, -1, -1, -1, -1, -1, -1, -1, -1, -1])) := by
  go_enter Tryd.func22, Tryd.ntmps22
  go_wp2_with fail
  refine (down_row 31 12 20 [31, 30, 29, 28, 27, 26, 25, 24, 23, 22, 21, 20, 19, 18, 17, 16, 15, 14, 13, 12] rfl rfl (by omega) _ (by omega) (by omega) (by omega)).mono ?_
  rintro e w1 ⟨gA, cA, rfl, oA, n1⟩
  have OA := Lib.hid oA
  clear oA
  have tok3 : True := trivial
  go_wp2_with (first | (at_builtin; have _t := tok3; have OF := Lib.hid (own_new w1 w1.heap.size 12 [-1, -1, -1, -1, -1, -1, -1, -1, -1, -1, -1, -1] rfl (Nat.le_refl _) (by omega)); have n2 : Nx w1 (w1.alloc (.cells #[.int .i64 (-1), .int .i64 (-1), .int .i64 (-1), .int .i64 (-1), .int .i64 (-1), .int .i64 (-1), .int .i64 (-1), .int .i64 (-1), .int .i64 (-1), .int .i64 (-1), .int .i64 (-1), .int .i64 (-1)] 3)) := (Nx.refl _).alloc _; have P3 := Lib.hid (own_nx OA.out n2); have I3 := Lib.hid ((own_row OF.out rfl).keep (Nx.refl (w1.alloc (.cells #[.int .i64 (-1), .int .i64 (-1), .int .i64 (-1), .int .i64 (-1), .int .i64 (-1), .int .i64 (-1), .int .i64 (-1), .int .i64 (-1), .int .i64 (-1), .int .i64 (-1), .int .i64 (-1), .int .i64 (-1)] 3)))); refine wp_append_row rfl _ _ rfl w.heap.size (gA) 20 cA (w1.heap.size) 12 12 32 _ _ rfl rfl P3.out rfl I3.out rfl (by omega) (by omega) (Nx.size (n1.trans n2)) ?_; intro gR cR w3 oR gr3; have OR := Lib.hid oR; have n3 : Nx w w3 := Nx.grown (n1.trans n2) gr3 (fun k hk => by have e := Option.some.inj hk; subst e; exact own_block P3.out _ rfl); clear oR gr3; clear tok3))
  have II := Lib.hid (own_row OR.out rfl)
  go_wp2
  go_ret
  exact ⟨gR, cR, rfl, II.out, n3⟩

set_option maxHeartbeats 1000000 in
theorem places_2 (w : World) : Calls Tryd.prog 22 #[.int .i64 2] w (RetL w 21 ((([31] ++ [19, 18, 17, 16, 15, 14, 13, 12]) ++ [20]) ++ ([30, 29, 28, 27, 26, 25, 24, 23, 22, 21] ++ [-1]))) := by
  go_enter Tryd.func22, Tryd.ntmps22
  have OA := Lib.hid (own_new w w.heap.size 1 [31] rfl (Nat.le_refl _) (by omega))
  have n1 : Nx w (w.alloc (.cells #[.int .i64 31] 3)) := (Nx.refl _).alloc _
  go_wp2_with fail
  refine (down_row 19 12 8 [19, 18, 17, 16, 15, 14, 13, 12] rfl rfl (by omega) _ (by omega) (by omega) (by omega)).mono ?_
  rintro e w2 ⟨gD, cD, rfl, oD, n2⟩
  have OD := Lib.hid oD
  clear oD
  have tok3 : True := trivial
  have tok5 : True := trivial
  go_wp2_with (first | (at_builtin; have _t := tok3; have P3 := Lib.hid (own_nx OA.out n2); have I3 := Lib.hid ((own_row OD.out rfl).keep (Nx.refl w2)); refine wp_append_row rfl _ _ rfl w.heap.size (w.heap.size) 1 1 (gD) 8 cD 9 _ _ rfl rfl P3.out rfl I3.out rfl (by omega) (by omega) (Nx.size (n1.trans n2)) ?_; intro gR cR w3 oR gr3; have OR := Lib.hid oR; have n3 : Nx w w3 := Nx.grown (n1.trans n2) gr3 (fun k hk => by have e := Option.some.inj hk; subst e; exact own_block P3.out _ rfl); clear oR gr3; clear tok3) | (at_builtin; have _t := tok5; have OF := Lib.hid (own_new w3 w3.heap.size 1 [20] rfl (Nat.le_refl _) (by omega)); have n4 : Nx w3 (w3.alloc (.cells #[.int .i64 20] 3)) := (Nx.refl _).alloc _; have P5 := Lib.hid (own_nx OR.out n4); have I5 := Lib.hid ((own_row OF.out rfl).keep (Nx.refl (w3.alloc (.cells #[.int .i64 20] 3)))); refine wp_append_row rfl _ _ rfl w.heap.size (gR) 9 cR (w3.heap.size) 1 1 10 _ _ rfl rfl P5.out rfl I5.out rfl (by omega) (by omega) (Nx.size (n3.trans n4)) ?_; intro gS cS w5 oS gr5; have OS := Lib.hid oS; have n5 : Nx w w5 := Nx.grown (n3.trans n4) gr5 (fun k hk => by have e := Option.some.inj hk; subst e; exact own_block P5.out _ rfl); clear oS gr5; clear tok5))
  go_wp2_with fail
  refine (down_row 30 21 10 [30, 29, 28, 27, 26, 25, 24, 23, 22, 21] rfl rfl (by omega) _ (by omega) (by omega) (by omega)).mono ?_
  rintro e w6 ⟨gE, cE, rfl, oE, n6⟩
  have OE := Lib.hid oE
  clear oE
  have tok8 : True := trivial
  have tok9 : True := trivial
  go_wp2_with (first | (at_builtin; have _t := tok8; have OH := Lib.hid (own_new w6 w6.heap.size 1 [-1] rfl (Nat.le_refl _) (by omega)); have n7 : Nx w6 (w6.alloc (.cells #[.int .i64 (-1)] 3)) := (Nx.refl _).alloc _; have P8 := Lib.hid (own_nx OE.out n7); have I8 := Lib.hid ((own_row OH.out rfl).keep (Nx.refl (w6.alloc (.cells #[.int .i64 (-1)] 3)))); refine wp_append_row rfl _ _ rfl w5.heap.size (gE) 10 cE (w6.heap.size) 1 1 11 _ _ rfl rfl P8.out rfl I8.out rfl (by omega) (by omega) (Nx.size (n6.trans n7)) ?_; intro gU cU w8 oU gr8; have OU := Lib.hid oU; have n8 : Nx w5 w8 := Nx.grown (n6.trans n7) gr8 (fun k hk => by have e := Option.some.inj hk; subst e; exact own_block P8.out _ rfl); clear oU gr8; clear tok8) | (at_builtin; have _t := tok9; have P9 := Lib.hid (own_nx OS.out n8); have I9 := Lib.hid ((own_row OU.out rfl).keep (Nx.refl w8)); refine wp_append_row rfl _ _ rfl w.heap.size (gS) 10 cS (gU) 11 cU 21 _ _ rfl rfl P9.out rfl I9.out rfl (by omega) (by omega) (Nx.size (n5.trans n8)) ?_; intro gT cT w9 oT gr9; have OT := Lib.hid oT; have n9 : Nx w w9 := Nx.grown (n5.trans n8) gr9 (fun k hk => by have e := Option.some.inj hk; subst e; exact own_block P9.out _ rfl); clear oT gr9; clear tok9))
  have II := Lib.hid (own_row OT.out rfl)
  go_wp2
  go_ret
  exact ⟨gT, cT, rfl, II.out, n9⟩

set_option maxHeartbeats 1000000 in
theorem places_3 (w : World) : Calls Tryd.prog 22 #[.int .i64 3] w (RetL w 13 (([31, 7] ++ [30, 29, 28, 27, 26, 25]) ++ ([11, 10, 9, 8] ++ [-1]))) := by
  go_enter Tryd.func22, Tryd.ntmps22
  have OA := Lib.hid (own_new w w.heap.size 2 [31, 7] rfl (Nat.le_refl _) (by omega))
  have n1 : Nx w (w.alloc (.cells #[.int .i64 31, .int .i64 7] 3)) := (Nx.refl _).alloc _
  go_wp2_with fail
  refine (down_row 30 25 6 [30, 29, 28, 27, 26, 25] rfl rfl (by omega) _ (by omega) (by omega) (by omega)).mono ?_
  rintro e w2 ⟨gD, cD, rfl, oD, n2⟩
  have OD := Lib.hid oD
  clear oD
  have tok3 : True := trivial
  go_wp2_with (first | (at_builtin; have _t := tok3; have P3 := Lib.hid (own_nx OA.out n2); have I3 := Lib.hid ((own_row OD.out rfl).keep (Nx.refl w2)); refine wp_append_row rfl _ _ rfl w.heap.size (w.heap.size) 2 2 (gD) 6 cD 8 _ _ rfl rfl P3.out rfl I3.out rfl (by omega) (by omega) (Nx.size (n1.trans n2)) ?_; intro gR cR w3 oR gr3; have OR := Lib.hid oR; have n3 : Nx w w3 := Nx.grown (n1.trans n2) gr3 (fun k hk => by have e := Option.some.inj hk; subst e; exact own_block P3.out _ rfl); clear oR gr3; clear tok3))
  go_wp2_with fail
  refine (down_row 11 8 4 [11, 10, 9, 8] rfl rfl (by omega) _ (by omega) (by omega) (by omega)).mono ?_
  rintro e w4 ⟨gE, cE, rfl, oE, n4⟩
  have OE := Lib.hid oE
  clear oE
  have tok6 : True := trivial
  have tok7 : True := trivial
  go_wp2_with (first | (at_builtin; have _t := tok6; have OF := Lib.hid (own_new w4 w4.heap.size 1 [-1] rfl (Nat.le_refl _) (by omega)); have n5 : Nx w4 (w4.alloc (.cells #[.int .i64 (-1)] 3)) := (Nx.refl _).alloc _; have P6 := Lib.hid (own_nx OE.out n5); have I6 := Lib.hid ((own_row OF.out rfl).keep (Nx.refl (w4.alloc (.cells #[.int .i64 (-1)] 3)))); refine wp_append_row rfl _ _ rfl w3.heap.size (gE) 4 cE (w4.heap.size) 1 1 5 _ _ rfl rfl P6.out rfl I6.out rfl (by omega) (by omega) (Nx.size (n4.trans n5)) ?_; intro gS cS w6 oS gr6; have OS := Lib.hid oS; have n6 : Nx w3 w6 := Nx.grown (n4.trans n5) gr6 (fun k hk => by have e := Option.some.inj hk; subst e; exact own_block P6.out _ rfl); clear oS gr6; clear tok6) | (at_builtin; have _t := tok7; have P7 := Lib.hid (own_nx OR.out n6); have I7 := Lib.hid ((own_row OS.out rfl).keep (Nx.refl w6)); refine wp_append_row rfl _ _ rfl w.heap.size (gR) 8 cR (gS) 5 cS 13 _ _ rfl rfl P7.out rfl I7.out rfl (by omega) (by omega) (Nx.size (n3.trans n6)) ?_; intro gT cT w7 oT gr7; have OT := Lib.hid oT; have n7 : Nx w w7 := Nx.grown (n3.trans n6) gr7 (fun k hk => by have e := Option.some.inj hk; subst e; exact own_block P7.out _ rfl); clear oT gr7; clear tok7))
  have II := Lib.hid (own_row OT.out rfl)
  go_wp2
  go_ret
  exact ⟨gT, cT, rfl, II.out, n7⟩

set_option maxHeartbeats 1000000 in
theorem places_4 (w : World) : Calls Tryd.prog 22 #[.int .i64 4] w (RetL w 12 [31, 30, 29, 28, 27, 26, 25, 24, 23, 22, 21, 20]) := by
  go_enter Tryd.func22, Tryd.ntmps22
  go_wp2_with fail
  refine (down_row 31 20 12 [31, 30, 29, 28, 27, 26, 25, 24, 23, 22, 21, 20] rfl rfl (by omega) _ (by omega) (by omega) (by omega)).mono ?_
  rintro e w1 ⟨gA, cA, rfl, oA, n1⟩
  have OA := Lib.hid oA
  clear oA
  have II := Lib.hid (own_row OA.out rfl)
  go_wp2
  go_ret
  exact ⟨gA, cA, rfl, II.out, n1⟩

set_option maxHeartbeats 1000000 in
theorem places_5 (w : World) : Calls Tryd.prog 22 #[.int .i64 5] w (RetL w 12 ([31, 30, 29, 28, 27, 26, 25] ++ [11, 10, 9, 8, 7])) := by
  go_enter Tryd.func22, Tryd.ntmps22
  go_wp2_with fail
  refine (down_row 31 25 7 [31, 30, 29, 28, 27, 26, 25] rfl rfl (by omega) _ (by omega) (by omega) (by omega)).mono ?_
  rintro e w1 ⟨gA, cA, rfl, oA, n1⟩
  have OA := Lib.hid oA
  clear oA
  go_wp2_with fail
  refine (down_row 11 7 5 [11, 10, 9, 8, 7] rfl rfl (by omega) _ (by omega) (by omega) (by omega)).mono ?_
  rintro e w2 ⟨gD, cD, rfl, oD, n2⟩
  have OD := Lib.hid oD
  clear oD
  have tok3 : True := trivial
  go_wp2_with (first | (at_builtin; have _t := tok3; have P3 := Lib.hid (own_nx OA.out n2); have I3 := Lib.hid ((own_row OD.out rfl).keep (Nx.refl w2)); refine wp_append_row rfl _ _ rfl w.heap.size (gA) 7 cA (gD) 5 cD 12 _ _ rfl rfl P3.out rfl I3.out rfl (by omega) (by omega) (Nx.size (n1.trans n2)) ?_; intro gR cR w3 oR gr3; have OR := Lib.hid oR; have n3 : Nx w w3 := Nx.grown (n1.trans n2) gr3 (fun k hk => by have e := Option.some.inj hk; subst e; exact own_block P3.out _ rfl); clear oR gr3; clear tok3))
  have II := Lib.hid (own_row OR.out rfl)
  go_wp2
  go_ret
  exact ⟨gR, cR, rfl, II.out, n3⟩

set_option maxHeartbeats 1000000 in
theorem places_6 (w : World) : Calls Tryd.prog 22 #[.int .i64 6] w (RetL w 12 [31, 30, 29, 28, 27, 26, 25, 24, 23, 22, 21, 20]) := by
  go_enter Tryd.func22, Tryd.ntmps22
  go_wp2_with fail
  refine (down_row 31 20 12 [31, 30, 29, 28, 27, 26, 25, 24, 23, 22, 21, 20] rfl rfl (by omega) _ (by omega) (by omega) (by omega)).mono ?_
  rintro e w1 ⟨gA, cA, rfl, oA, n1⟩
  have OA := Lib.hid oA
  clear oA
  have II := Lib.hid (own_row OA.out rfl)
  go_wp2
  go_ret
  exact ⟨gA, cA, rfl, II.out, n1⟩

set_option maxHeartbeats 1000000 in
theorem places_7 (w : World) : Calls Tryd.prog 22 #[.int .i64 7] w (RetL w 5 [24, 23, 22, 21, 20]) := by
  go_enter Tryd.func22, Tryd.ntmps22
  go_wp2_with fail
  refine (down_row 24 20 5 [24, 23, 22, 21, 20] rfl rfl (by omega) _ (by omega) (by omega) (by omega)).mono ?_
  rintro e w1 ⟨gA, cA, rfl, oA, n1⟩
  have OA := Lib.hid oA
  clear oA
  have II := Lib.hid (own_row OA.out rfl)
  go_wp2
  go_ret
  exact ⟨gA, cA, rfl, II.out, n1⟩

def plL (f : Int) : List Int := if f = 1 then ([31, 30, 29, 28, 27, 26, 25, 24, 23, 22, 21, 20, 19, 18, 17, 16, 15, 14, 13, 12] ++ [-1, -1, -1, -1, -1, -1, -1, -1, -1, -1, -1, -1]) else if f = 2 then ((([31] ++ [19, 18, 17, 16, 15, 14, 13, 12]) ++ [20]) ++ ([30, 29, 28, 27, 26, 25, 24, 23, 22, 21] ++ [-1])) else if f = 3 then (([31, 7] ++ [30, 29, 28, 27, 26, 25]) ++ ([11, 10, 9, 8] ++ [-1])) else if f = 4 then [31, 30, 29, 28, 27, 26, 25, 24, 23, 22, 21, 20] else if f = 5 then ([31, 30, 29, 28, 27, 26, 25] ++ [11, 10, 9, 8, 7]) else if f = 6 then [31, 30, 29, 28, 27, 26, 25, 24, 23, 22, 21, 20] else if f = 7 then [24, 23, 22, 21, 20] else []

theorem places_some (f : Int) (w : World) (h1 : 1 ≤ f) (h2 : f ≤ 7) : Calls Tryd.prog 22 #[.int .i64 f] w fun e w' => ∃ g n c, (plL f).length = n ∧ e = .returned (.slice (some ⟨g, 0, none⟩) n c) ∧ Ints w' g (plL f) ∧ Nx w w' := by
  rcases (by omega : f = 1 ∨ f = 2 ∨ f = 3 ∨ f = 4 ∨ f = 5 ∨ f = 6 ∨ f = 7) with rfl | rfl | rfl | rfl | rfl | rfl | rfl
  · exact (places_1 w).mono fun e w' ⟨g, c, h, hi, hn⟩ => ⟨g, _, c, rfl, h, hi, hn⟩
  · exact (places_2 w).mono fun e w' ⟨g, c, h, hi, hn⟩ => ⟨g, _, c, rfl, h, hi, hn⟩
  · exact (places_3 w).mono fun e w' ⟨g, c, h, hi, hn⟩ => ⟨g, _, c, rfl, h, hi, hn⟩
  · exact (places_4 w).mono fun e w' ⟨g, c, h, hi, hn⟩ => ⟨g, _, c, rfl, h, hi, hn⟩
  · exact (places_5 w).mono fun e w' ⟨g, c, h, hi, hn⟩ => ⟨g, _, c, rfl, h, hi, hn⟩
  · exact (places_6 w).mono fun e w' ⟨g, c, h, hi, hn⟩ => ⟨g, _, c, rfl, h, hi, hn⟩
  · exact (places_7 w).mono fun e w' ⟨g, c, h, hi, hn⟩ => ⟨g, _, c, rfl, h, hi, hn⟩

set_option maxHeartbeats 400000 in
theorem places_none (f : Int) (w : World) (h : f = 8 ∨ f = 9) : Calls Tryd.prog 22 #[.int .i64 f] w fun e w' => e = .returned (.slice none 0 0) ∧ w = w' := by
  rcases h with rfl | rfl
  all_goals
    go_enter Tryd.func22, Tryd.ntmps22
    go_wp2
    go_ret
    exact ⟨rfl, rfl⟩

/-- The sum of a number's bits, each where it lies: the first k of them. -/
def sumTo (x : Int) (l : List Int) : Nat → Int
  | 0 => 0
  | k + 1 => sumTo x l k + (if 0 ≤ l.getD k 0 then fld x (l.length - 1 - k) 1 * 2 ^ (l.getD k 0).toNat else 0)

theorem sum_1 (x : Int) : sumTo x (plL 1) 32 = putImm 1 x := by
  have e : plL 1 = ([31, 30, 29, 28, 27, 26, 25, 24, 23, 22, 21, 20, 19, 18, 17, 16, 15, 14, 13, 12] ++ [-1, -1, -1, -1, -1, -1, -1, -1, -1, -1, -1, -1]) := rfl
  rw [e]
  have h12_2 : fld x 12 2 = fld x 12 1 + 2 ^ 1 * fld x 13 1 := fld_step x 12 1
  have h12_3 : fld x 12 3 = fld x 12 2 + 2 ^ 2 * fld x 14 1 := fld_step x 12 2
  have h12_4 : fld x 12 4 = fld x 12 3 + 2 ^ 3 * fld x 15 1 := fld_step x 12 3
  have h12_5 : fld x 12 5 = fld x 12 4 + 2 ^ 4 * fld x 16 1 := fld_step x 12 4
  have h12_6 : fld x 12 6 = fld x 12 5 + 2 ^ 5 * fld x 17 1 := fld_step x 12 5
  have h12_7 : fld x 12 7 = fld x 12 6 + 2 ^ 6 * fld x 18 1 := fld_step x 12 6
  have h12_8 : fld x 12 8 = fld x 12 7 + 2 ^ 7 * fld x 19 1 := fld_step x 12 7
  have h12_9 : fld x 12 9 = fld x 12 8 + 2 ^ 8 * fld x 20 1 := fld_step x 12 8
  have h12_10 : fld x 12 10 = fld x 12 9 + 2 ^ 9 * fld x 21 1 := fld_step x 12 9
  have h12_11 : fld x 12 11 = fld x 12 10 + 2 ^ 10 * fld x 22 1 := fld_step x 12 10
  have h12_12 : fld x 12 12 = fld x 12 11 + 2 ^ 11 * fld x 23 1 := fld_step x 12 11
  have h12_13 : fld x 12 13 = fld x 12 12 + 2 ^ 12 * fld x 24 1 := fld_step x 12 12
  have h12_14 : fld x 12 14 = fld x 12 13 + 2 ^ 13 * fld x 25 1 := fld_step x 12 13
  have h12_15 : fld x 12 15 = fld x 12 14 + 2 ^ 14 * fld x 26 1 := fld_step x 12 14
  have h12_16 : fld x 12 16 = fld x 12 15 + 2 ^ 15 * fld x 27 1 := fld_step x 12 15
  have h12_17 : fld x 12 17 = fld x 12 16 + 2 ^ 16 * fld x 28 1 := fld_step x 12 16
  have h12_18 : fld x 12 18 = fld x 12 17 + 2 ^ 17 * fld x 29 1 := fld_step x 12 17
  have h12_19 : fld x 12 19 = fld x 12 18 + 2 ^ 18 * fld x 30 1 := fld_step x 12 18
  have h12_20 : fld x 12 20 = fld x 12 19 + 2 ^ 19 * fld x 31 1 := fld_step x 12 19
  simp [sumTo, putImm]
  omega

theorem sum_2 (x : Int) : sumTo x (plL 2) 21 = putImm 2 x := by
  have e : plL 2 = ((([31] ++ [19, 18, 17, 16, 15, 14, 13, 12]) ++ [20]) ++ ([30, 29, 28, 27, 26, 25, 24, 23, 22, 21] ++ [-1])) := rfl
  rw [e]
  have h12_2 : fld x 12 2 = fld x 12 1 + 2 ^ 1 * fld x 13 1 := fld_step x 12 1
  have h12_3 : fld x 12 3 = fld x 12 2 + 2 ^ 2 * fld x 14 1 := fld_step x 12 2
  have h12_4 : fld x 12 4 = fld x 12 3 + 2 ^ 3 * fld x 15 1 := fld_step x 12 3
  have h12_5 : fld x 12 5 = fld x 12 4 + 2 ^ 4 * fld x 16 1 := fld_step x 12 4
  have h12_6 : fld x 12 6 = fld x 12 5 + 2 ^ 5 * fld x 17 1 := fld_step x 12 5
  have h12_7 : fld x 12 7 = fld x 12 6 + 2 ^ 6 * fld x 18 1 := fld_step x 12 6
  have h12_8 : fld x 12 8 = fld x 12 7 + 2 ^ 7 * fld x 19 1 := fld_step x 12 7
  have h1_2 : fld x 1 2 = fld x 1 1 + 2 ^ 1 * fld x 2 1 := fld_step x 1 1
  have h1_3 : fld x 1 3 = fld x 1 2 + 2 ^ 2 * fld x 3 1 := fld_step x 1 2
  have h1_4 : fld x 1 4 = fld x 1 3 + 2 ^ 3 * fld x 4 1 := fld_step x 1 3
  have h1_5 : fld x 1 5 = fld x 1 4 + 2 ^ 4 * fld x 5 1 := fld_step x 1 4
  have h1_6 : fld x 1 6 = fld x 1 5 + 2 ^ 5 * fld x 6 1 := fld_step x 1 5
  have h1_7 : fld x 1 7 = fld x 1 6 + 2 ^ 6 * fld x 7 1 := fld_step x 1 6
  have h1_8 : fld x 1 8 = fld x 1 7 + 2 ^ 7 * fld x 8 1 := fld_step x 1 7
  have h1_9 : fld x 1 9 = fld x 1 8 + 2 ^ 8 * fld x 9 1 := fld_step x 1 8
  have h1_10 : fld x 1 10 = fld x 1 9 + 2 ^ 9 * fld x 10 1 := fld_step x 1 9
  simp [sumTo, putImm]
  omega

theorem sum_3 (x : Int) : sumTo x (plL 3) 13 = putImm 3 x := by
  have e : plL 3 = (([31, 7] ++ [30, 29, 28, 27, 26, 25]) ++ ([11, 10, 9, 8] ++ [-1])) := rfl
  rw [e]
  have h5_2 : fld x 5 2 = fld x 5 1 + 2 ^ 1 * fld x 6 1 := fld_step x 5 1
  have h5_3 : fld x 5 3 = fld x 5 2 + 2 ^ 2 * fld x 7 1 := fld_step x 5 2
  have h5_4 : fld x 5 4 = fld x 5 3 + 2 ^ 3 * fld x 8 1 := fld_step x 5 3
  have h5_5 : fld x 5 5 = fld x 5 4 + 2 ^ 4 * fld x 9 1 := fld_step x 5 4
  have h5_6 : fld x 5 6 = fld x 5 5 + 2 ^ 5 * fld x 10 1 := fld_step x 5 5
  have h1_2 : fld x 1 2 = fld x 1 1 + 2 ^ 1 * fld x 2 1 := fld_step x 1 1
  have h1_3 : fld x 1 3 = fld x 1 2 + 2 ^ 2 * fld x 3 1 := fld_step x 1 2
  have h1_4 : fld x 1 4 = fld x 1 3 + 2 ^ 3 * fld x 4 1 := fld_step x 1 3
  simp [sumTo, putImm]
  omega

theorem sum_4 (x : Int) : sumTo x (plL 4) 12 = putImm 4 x := by
  have e : plL 4 = [31, 30, 29, 28, 27, 26, 25, 24, 23, 22, 21, 20] := rfl
  rw [e]
  have h0_2 : fld x 0 2 = fld x 0 1 + 2 ^ 1 * fld x 1 1 := fld_step x 0 1
  have h0_3 : fld x 0 3 = fld x 0 2 + 2 ^ 2 * fld x 2 1 := fld_step x 0 2
  have h0_4 : fld x 0 4 = fld x 0 3 + 2 ^ 3 * fld x 3 1 := fld_step x 0 3
  have h0_5 : fld x 0 5 = fld x 0 4 + 2 ^ 4 * fld x 4 1 := fld_step x 0 4
  have h0_6 : fld x 0 6 = fld x 0 5 + 2 ^ 5 * fld x 5 1 := fld_step x 0 5
  have h0_7 : fld x 0 7 = fld x 0 6 + 2 ^ 6 * fld x 6 1 := fld_step x 0 6
  have h0_8 : fld x 0 8 = fld x 0 7 + 2 ^ 7 * fld x 7 1 := fld_step x 0 7
  have h0_9 : fld x 0 9 = fld x 0 8 + 2 ^ 8 * fld x 8 1 := fld_step x 0 8
  have h0_10 : fld x 0 10 = fld x 0 9 + 2 ^ 9 * fld x 9 1 := fld_step x 0 9
  have h0_11 : fld x 0 11 = fld x 0 10 + 2 ^ 10 * fld x 10 1 := fld_step x 0 10
  have h0_12 : fld x 0 12 = fld x 0 11 + 2 ^ 11 * fld x 11 1 := fld_step x 0 11
  simp [sumTo, putImm]
  omega

theorem sum_5 (x : Int) : sumTo x (plL 5) 12 = putImm 5 x := by
  have e : plL 5 = ([31, 30, 29, 28, 27, 26, 25] ++ [11, 10, 9, 8, 7]) := rfl
  rw [e]
  have h5_2 : fld x 5 2 = fld x 5 1 + 2 ^ 1 * fld x 6 1 := fld_step x 5 1
  have h5_3 : fld x 5 3 = fld x 5 2 + 2 ^ 2 * fld x 7 1 := fld_step x 5 2
  have h5_4 : fld x 5 4 = fld x 5 3 + 2 ^ 3 * fld x 8 1 := fld_step x 5 3
  have h5_5 : fld x 5 5 = fld x 5 4 + 2 ^ 4 * fld x 9 1 := fld_step x 5 4
  have h5_6 : fld x 5 6 = fld x 5 5 + 2 ^ 5 * fld x 10 1 := fld_step x 5 5
  have h5_7 : fld x 5 7 = fld x 5 6 + 2 ^ 6 * fld x 11 1 := fld_step x 5 6
  have h0_2 : fld x 0 2 = fld x 0 1 + 2 ^ 1 * fld x 1 1 := fld_step x 0 1
  have h0_3 : fld x 0 3 = fld x 0 2 + 2 ^ 2 * fld x 2 1 := fld_step x 0 2
  have h0_4 : fld x 0 4 = fld x 0 3 + 2 ^ 3 * fld x 3 1 := fld_step x 0 3
  have h0_5 : fld x 0 5 = fld x 0 4 + 2 ^ 4 * fld x 4 1 := fld_step x 0 4
  simp [sumTo, putImm]
  omega

theorem sum_6 (x : Int) : sumTo x (plL 6) 12 = putImm 6 x := by
  have e : plL 6 = [31, 30, 29, 28, 27, 26, 25, 24, 23, 22, 21, 20] := rfl
  rw [e]
  have h0_2 : fld x 0 2 = fld x 0 1 + 2 ^ 1 * fld x 1 1 := fld_step x 0 1
  have h0_3 : fld x 0 3 = fld x 0 2 + 2 ^ 2 * fld x 2 1 := fld_step x 0 2
  have h0_4 : fld x 0 4 = fld x 0 3 + 2 ^ 3 * fld x 3 1 := fld_step x 0 3
  have h0_5 : fld x 0 5 = fld x 0 4 + 2 ^ 4 * fld x 4 1 := fld_step x 0 4
  have h0_6 : fld x 0 6 = fld x 0 5 + 2 ^ 5 * fld x 5 1 := fld_step x 0 5
  have h0_7 : fld x 0 7 = fld x 0 6 + 2 ^ 6 * fld x 6 1 := fld_step x 0 6
  have h0_8 : fld x 0 8 = fld x 0 7 + 2 ^ 7 * fld x 7 1 := fld_step x 0 7
  have h0_9 : fld x 0 9 = fld x 0 8 + 2 ^ 8 * fld x 8 1 := fld_step x 0 8
  have h0_10 : fld x 0 10 = fld x 0 9 + 2 ^ 9 * fld x 9 1 := fld_step x 0 9
  have h0_11 : fld x 0 11 = fld x 0 10 + 2 ^ 10 * fld x 10 1 := fld_step x 0 10
  have h0_12 : fld x 0 12 = fld x 0 11 + 2 ^ 11 * fld x 11 1 := fld_step x 0 11
  simp [sumTo, putImm]
  omega

theorem sum_7 (x : Int) : sumTo x (plL 7) 5 = putImm 7 x := by
  have e : plL 7 = [24, 23, 22, 21, 20] := rfl
  rw [e]
  have h0_2 : fld x 0 2 = fld x 0 1 + 2 ^ 1 * fld x 1 1 := fld_step x 0 1
  have h0_3 : fld x 0 3 = fld x 0 2 + 2 ^ 2 * fld x 2 1 := fld_step x 0 2
  have h0_4 : fld x 0 4 = fld x 0 3 + 2 ^ 3 * fld x 3 1 := fld_step x 0 3
  have h0_5 : fld x 0 5 = fld x 0 4 + 2 ^ 4 * fld x 4 1 := fld_step x 0 4
  simp [sumTo, putImm]
  omega

end Go.Proofs.YtpaadeiopflfgaaDoor
