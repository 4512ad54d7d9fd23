/- Contracts of package typecaseref04: the numbers of a word. -/
import Derived.Test.YtpaadeiopflfgaaDoorRefd
namespace Go.Proofs.YtpaadeiopflfgaaDoor
open Go.RowKit
set_option linter.unusedVariables false

def rimmI (x : Int) : Int := sgn (hor x 0 [31, 30, 29, 28, 27, 26, 25, 24, 23, 22, 21, 20]) 12

set_option maxHeartbeats 1000000 in
theorem rimmI_any (x : Int) (w : World) (hx : 0 ≤ x) (hx' : x < 4294967296) : Calls Tryd.prog 32 #[.int .u32 x] w fun e w' => e = .returned (.int .i32 (rimmI x)) ∧ Nx w w' := by
  go_enter Tryd.func32, Tryd.ntmps32
  go_wp2_with fail
  refine (down_row 31 20 12 [31, 30, 29, 28, 27, 26, 25, 24, 23, 22, 21, 20] rfl rfl (by omega) _ (by omega) (by omega) (by omega)).mono ?_
  rintro e w1 ⟨gA, cA, rfl, oA, n1⟩
  have OA := Lib.hid oA
  clear oA
  have II := Lib.hid (own_row OA.out rfl)
  go_wp2_with fail
  refine (bits_any x gA 12 cA [31, 30, 29, 28, 27, 26, 25, 24, 23, 22, 21, 20] rfl w1 hx hx' (by decide) II.out).mono ?_
  rintro e w99 ⟨rfl, rfl⟩
  go_wp2
  go_ret
  exact ⟨ret_i32 rfl, n1⟩

def rimmS (x : Int) : Int := sgn (hor x 0 ([31, 30, 29, 28, 27, 26, 25] ++ [11, 10, 9, 8, 7])) 12

set_option maxHeartbeats 1000000 in
theorem rimmS_any (x : Int) (w : World) (hx : 0 ≤ x) (hx' : x < 4294967296) : Calls Tryd.prog 33 #[.int .u32 x] w fun e w' => e = .returned (.int .i32 (rimmS x)) ∧ Nx w w' := by
  go_enter Tryd.func33, Tryd.ntmps33
  go_wp2_with fail
  refine (down_row 31 25 7 [31, 30, 29, 28, 27, 26, 25] rfl rfl (by omega) _ (by omega) (by omega) (by omega)).mono ?_
  rintro e w1 ⟨gA, cA, rfl, oA, n1⟩
  have OA := Lib.hid oA
  clear oA
  go_wp2_with fail
  refine (down_row 11 7 5 [11, 10, 9, 8, 7] rfl rfl (by omega) _ (by omega) (by omega) (by omega)).mono ?_
  rintro e w2 ⟨gD, cD, rfl, oD, n2⟩
  have OD := Lib.hid oD
  clear oD
  have tok3 : True := trivial
  go_wp2_with (first | (at_builtin; have _t := tok3; have P3 := Lib.hid (own_nx OA.out n2); have I3 := Lib.hid ((own_row OD.out rfl).keep (Nx.refl w2)); refine wp_append_row rfl _ _ rfl w.heap.size (gA) 7 cA (gD) 5 cD 12 _ _ rfl rfl P3.out rfl I3.out rfl (by omega) (by omega) (Nx.size (n1.trans n2)) ?_; intro gR cR w3 oR gr3; have OR := Lib.hid oR; have n3 : Nx w w3 := Nx.grown (n1.trans n2) gr3 (fun k hk => by have e := Option.some.inj hk; subst e; exact own_block P3.out _ rfl); clear oR gr3; clear tok3))
  have II := Lib.hid (own_row OR.out rfl)
  go_wp2_with fail
  refine (bits_any x gR 12 cR ([31, 30, 29, 28, 27, 26, 25] ++ [11, 10, 9, 8, 7]) rfl w3 hx hx' (by decide) II.out).mono ?_
  rintro e w99 ⟨rfl, rfl⟩
  go_wp2
  go_ret
  exact ⟨ret_i32 rfl, n3⟩

def rimmB (x : Int) : Int := sgn (hor x 0 (([31, 7] ++ [30, 29, 28, 27, 26, 25]) ++ ([11, 10, 9, 8] ++ [-1]))) 13

set_option maxHeartbeats 1000000 in
theorem rimmB_any (x : Int) (w : World) (hx : 0 ≤ x) (hx' : x < 4294967296) : Calls Tryd.prog 31 #[.int .u32 x] w fun e w' => e = .returned (.int .i32 (rimmB x)) ∧ Nx w w' := by
  go_enter Tryd.func31, Tryd.ntmps31
  have OA := Lib.hid (own_new w w.heap.size 2 [31, 7] rfl (Nat.le_refl _) (by omega))
  have n1 : Nx w (w.alloc (.cells #[.int .i64 31, .int .i64 7] 3)) := (Nx.refl _).alloc _
  go_wp2_with fail
  refine (down_row 30 25 6 [30, 29, 28, 27, 26, 25] rfl rfl (by omega) _ (by omega) (by omega) (by omega)).mono ?_
  rintro e w2 ⟨gD, cD, rfl, oD, n2⟩
  have OD := Lib.hid oD
  clear oD
  have tok3 : True := trivial
  go_wp2_with (first | (at_builtin; have _t := tok3; have P3 := Lib.hid (own_nx OA.out n2); have I3 := Lib.hid ((own_row OD.out rfl).keep (Nx.refl w2)); refine wp_append_row rfl _ _ rfl w.heap.size (w.heap.size) 2 2 (gD) 6 cD 8 _ _ rfl rfl P3.out rfl I3.out rfl (by omega) (by omega) (Nx.size (n1.trans n2)) ?_; intro gR cR w3 oR gr3; have OR := Lib.hid oR; have n3 : Nx w w3 := Nx.grown (n1.trans n2) gr3 (fun k hk => by have e := Option.some.inj hk; subst e; exact own_block P3.out _ rfl); clear oR gr3; clear tok3))
  go_wp2_with fail
  refine (down_row 11 8 4 [11, 10, 9, 8] rfl rfl (by omega) _ (by omega) (by omega) (by omega)).mono ?_
  rintro e w4 ⟨gE, cE, rfl, oE, n4⟩
  have OE := Lib.hid oE
  clear oE
  have tok6 : True := trivial
  have tok7 : True := trivial
  go_wp2_with (first | (at_builtin; have _t := tok6; have OF := Lib.hid (own_new w4 w4.heap.size 1 [-1] rfl (Nat.le_refl _) (by omega)); have n5 : Nx w4 (w4.alloc (.cells #[.int .i64 (-1)] 3)) := (Nx.refl _).alloc _; have P6 := Lib.hid (own_nx OE.out n5); have I6 := Lib.hid ((own_row OF.out rfl).keep (Nx.refl (w4.alloc (.cells #[.int .i64 (-1)] 3)))); refine wp_append_row rfl _ _ rfl w3.heap.size (gE) 4 cE (w4.heap.size) 1 1 5 _ _ rfl rfl P6.out rfl I6.out rfl (by omega) (by omega) (Nx.size (n4.trans n5)) ?_; intro gS cS w6 oS gr6; have OS := Lib.hid oS; have n6 : Nx w3 w6 := Nx.grown (n4.trans n5) gr6 (fun k hk => by have e := Option.some.inj hk; subst e; exact own_block P6.out _ rfl); clear oS gr6; clear tok6) | (at_builtin; have _t := tok7; have P7 := Lib.hid (own_nx OR.out n6); have I7 := Lib.hid ((own_row OS.out rfl).keep (Nx.refl w6)); refine wp_append_row rfl _ _ rfl w.heap.size (gR) 8 cR (gS) 5 cS 13 _ _ rfl rfl P7.out rfl I7.out rfl (by omega) (by omega) (Nx.size (n3.trans n6)) ?_; intro gT cT w7 oT gr7; have OT := Lib.hid oT; have n7 : Nx w w7 := Nx.grown (n3.trans n6) gr7 (fun k hk => by have e := Option.some.inj hk; subst e; exact own_block P7.out _ rfl); clear oT gr7; clear tok7))
  have II := Lib.hid (own_row OT.out rfl)
  go_wp2_with fail
  refine (bits_any x gT 13 cT (([31, 7] ++ [30, 29, 28, 27, 26, 25]) ++ ([11, 10, 9, 8] ++ [-1])) rfl w7 hx hx' (by decide) II.out).mono ?_
  rintro e w99 ⟨rfl, rfl⟩
  go_wp2
  go_ret
  exact ⟨ret_i32 rfl, n7⟩

def rimmU (x : Int) : Int := sgn (hor x 0 ([31, 30, 29, 28, 27, 26, 25, 24, 23, 22, 21, 20, 19, 18, 17, 16, 15, 14, 13, 12] ++ [-1, -1, -1, -1, -1, -1, -1, -1, -1, -1, -1, -1])) 32

set_option maxHeartbeats 1000000 in
theorem rimmU_any (x : Int) (w : World) (hx : 0 ≤ x) (hx' : x < 4294967296) : Calls Tryd.prog 29 #[.int .u32 x] w fun e w' => e = .returned (.int .i32 (rimmU x)) ∧ Nx w w' := by
  go_enter Tryd.func29, Tryd.ntmps29
  go_wp2_with fail
  refine (down_row 31 12 20 [31, 30, 29, 28, 27, 26, 25, 24, 23, 22, 21, 20, 19, 18, 17, 16, 15, 14, 13, 12] rfl rfl (by omega) _ (by omega) (by omega) (by omega)).mono ?_
  rintro e w1 ⟨gA, cA, rfl, oA, n1⟩
  have OA := Lib.hid oA
  clear oA
  have tok3 : True := trivial
  go_wp2_with (first | (at_builtin; have _t := tok3; have OF := Lib.hid (own_new w1 w1.heap.size 12 [-1, -1, -1, -1, -1, -1, -1, -1, -1, -1, -1, -1] rfl (Nat.le_refl _) (by omega)); have n2 : Nx w1 (w1.alloc (.cells #[.int .i64 (-1), .int .i64 (-1), .int .i64 (-1), .int .i64 (-1), .int .i64 (-1), .int .i64 (-1), .int .i64 (-1), .int .i64 (-1), .int .i64 (-1), .int .i64 (-1), .int .i64 (-1), .int .i64 (-1)] 3)) := (Nx.refl _).alloc _; have P3 := Lib.hid (own_nx OA.out n2); have I3 := Lib.hid ((own_row OF.out rfl).keep (Nx.refl (w1.alloc (.cells #[.int .i64 (-1), .int .i64 (-1), .int .i64 (-1), .int .i64 (-1), .int .i64 (-1), .int .i64 (-1), .int .i64 (-1), .int .i64 (-1), .int .i64 (-1), .int .i64 (-1), .int .i64 (-1), .int .i64 (-1)] 3)))); refine wp_append_row rfl _ _ rfl w.heap.size (gA) 20 cA (w1.heap.size) 12 12 32 _ _ rfl rfl P3.out rfl I3.out rfl (by omega) (by omega) (Nx.size (n1.trans n2)) ?_; intro gR cR w3 oR gr3; have OR := Lib.hid oR; have n3 : Nx w w3 := Nx.grown (n1.trans n2) gr3 (fun k hk => by have e := Option.some.inj hk; subst e; exact own_block P3.out _ rfl); clear oR gr3; clear tok3))
  have II := Lib.hid (own_row OR.out rfl)
  go_wp2_with fail
  refine (bits_any x gR 32 cR ([31, 30, 29, 28, 27, 26, 25, 24, 23, 22, 21, 20, 19, 18, 17, 16, 15, 14, 13, 12] ++ [-1, -1, -1, -1, -1, -1, -1, -1, -1, -1, -1, -1]) rfl w3 hx hx' (by decide) II.out).mono ?_
  rintro e w99 ⟨rfl, rfl⟩
  go_wp2
  go_ret
  exact ⟨ret_i32 rfl, n3⟩

def rimmJ (x : Int) : Int := sgn (hor x 0 ((([31] ++ [19, 18, 17, 16, 15, 14, 13, 12]) ++ [20]) ++ ([30, 29, 28, 27, 26, 25, 24, 23, 22, 21] ++ [-1]))) 21

set_option maxHeartbeats 1000000 in
theorem rimmJ_any (x : Int) (w : World) (hx : 0 ≤ x) (hx' : x < 4294967296) : Calls Tryd.prog 30 #[.int .u32 x] w fun e w' => e = .returned (.int .i32 (rimmJ x)) ∧ Nx w w' := by
  go_enter Tryd.func30, Tryd.ntmps30
  have OA := Lib.hid (own_new w w.heap.size 1 [31] rfl (Nat.le_refl _) (by omega))
  have n1 : Nx w (w.alloc (.cells #[.int .i64 31] 3)) := (Nx.refl _).alloc _
  go_wp2_with fail
  refine (down_row 19 12 8 [19, 18, 17, 16, 15, 14, 13, 12] rfl rfl (by omega) _ (by omega) (by omega) (by omega)).mono ?_
  rintro e w2 ⟨gD, cD, rfl, oD, n2⟩
  have OD := Lib.hid oD
  clear oD
  have tok3 : True := trivial
  have tok5 : True := trivial
  go_wp2_with (first | (at_builtin; have _t := tok3; have P3 := Lib.hid (own_nx OA.out n2); have I3 := Lib.hid ((own_row OD.out rfl).keep (Nx.refl w2)); refine wp_append_row rfl _ _ rfl w.heap.size (w.heap.size) 1 1 (gD) 8 cD 9 _ _ rfl rfl P3.out rfl I3.out rfl (by omega) (by omega) (Nx.size (n1.trans n2)) ?_; intro gR cR w3 oR gr3; have OR := Lib.hid oR; have n3 : Nx w w3 := Nx.grown (n1.trans n2) gr3 (fun k hk => by have e := Option.some.inj hk; subst e; exact own_block P3.out _ rfl); clear oR gr3; clear tok3) | (at_builtin; have _t := tok5; have OF := Lib.hid (own_new w3 w3.heap.size 1 [20] rfl (Nat.le_refl _) (by omega)); have n4 : Nx w3 (w3.alloc (.cells #[.int .i64 20] 3)) := (Nx.refl _).alloc _; have P5 := Lib.hid (own_nx OR.out n4); have I5 := Lib.hid ((own_row OF.out rfl).keep (Nx.refl (w3.alloc (.cells #[.int .i64 20] 3)))); refine wp_append_row rfl _ _ rfl w.heap.size (gR) 9 cR (w3.heap.size) 1 1 10 _ _ rfl rfl P5.out rfl I5.out rfl (by omega) (by omega) (Nx.size (n3.trans n4)) ?_; intro gS cS w5 oS gr5; have OS := Lib.hid oS; have n5 : Nx w w5 := Nx.grown (n3.trans n4) gr5 (fun k hk => by have e := Option.some.inj hk; subst e; exact own_block P5.out _ rfl); clear oS gr5; clear tok5))
  go_wp2_with fail
  refine (down_row 30 21 10 [30, 29, 28, 27, 26, 25, 24, 23, 22, 21] rfl rfl (by omega) _ (by omega) (by omega) (by omega)).mono ?_
  rintro e w6 ⟨gE, cE, rfl, oE, n6⟩
  have OE := Lib.hid oE
  clear oE
  have tok8 : True := trivial
  have tok9 : True := trivial
  go_wp2_with (first | (at_builtin; have _t := tok8; have OH := Lib.hid (own_new w6 w6.heap.size 1 [-1] rfl (Nat.le_refl _) (by omega)); have n7 : Nx w6 (w6.alloc (.cells #[.int .i64 (-1)] 3)) := (Nx.refl _).alloc _; have P8 := Lib.hid (own_nx OE.out n7); have I8 := Lib.hid ((own_row OH.out rfl).keep (Nx.refl (w6.alloc (.cells #[.int .i64 (-1)] 3)))); refine wp_append_row rfl _ _ rfl w5.heap.size (gE) 10 cE (w6.heap.size) 1 1 11 _ _ rfl rfl P8.out rfl I8.out rfl (by omega) (by omega) (Nx.size (n6.trans n7)) ?_; intro gU cU w8 oU gr8; have OU := Lib.hid oU; have n8 : Nx w5 w8 := Nx.grown (n6.trans n7) gr8 (fun k hk => by have e := Option.some.inj hk; subst e; exact own_block P8.out _ rfl); clear oU gr8; clear tok8) | (at_builtin; have _t := tok9; have P9 := Lib.hid (own_nx OS.out n8); have I9 := Lib.hid ((own_row OU.out rfl).keep (Nx.refl w8)); refine wp_append_row rfl _ _ rfl w.heap.size (gS) 10 cS (gU) 11 cU 21 _ _ rfl rfl P9.out rfl I9.out rfl (by omega) (by omega) (Nx.size (n5.trans n8)) ?_; intro gT cT w9 oT gr9; have OT := Lib.hid oT; have n9 : Nx w w9 := Nx.grown (n5.trans n8) gr9 (fun k hk => by have e := Option.some.inj hk; subst e; exact own_block P9.out _ rfl); clear oT gr9; clear tok9))
  have II := Lib.hid (own_row OT.out rfl)
  go_wp2_with fail
  refine (bits_any x gT 21 cT ((([31] ++ [19, 18, 17, 16, 15, 14, 13, 12]) ++ [20]) ++ ([30, 29, 28, 27, 26, 25, 24, 23, 22, 21] ++ [-1])) rfl w9 hx hx' (by decide) II.out).mono ?_
  rintro e w99 ⟨rfl, rfl⟩
  go_wp2
  go_ret
  exact ⟨ret_i32 rfl, n9⟩

end Go.Proofs.YtpaadeiopflfgaaDoor
