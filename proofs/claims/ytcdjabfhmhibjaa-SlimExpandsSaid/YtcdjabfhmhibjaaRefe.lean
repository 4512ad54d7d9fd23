/- Contracts of package typecaseref05: fields, lists of bits, their numbers. -/
import Derived.Test.YtcdjabfhmhibjaaRefd
import Derived.Test.YtcdjabfhmhibjaaRuns
namespace Go.Proofs.Ytcdjabfhmhibjaa
open Go.RowKit
set_option linter.unusedVariables false
set_option linter.unusedSimpArgs false

set_option maxHeartbeats 400000 in
theorem efield_any (x a b : Int) (n : Nat) (w : World) (hx : 0 ≤ x) (hx' : x < 65536) (hb : 0 ≤ b) (hb' : b ≤ 31) (ha : b ≤ a) (ha' : a ≤ 31) (hn : (a - b + 1).toNat = n) :
    Calls Try.prog 27 #[.int .u32 x, .int .i64 a, .int .i64 b] w fun e w' => e = .returned (.int .i64 (fld x b.toNat n)) ∧ w = w' := by
  subst hn
  have f0 := fld_nonneg x b.toNat (a - b + 1).toNat
  have f1 := fld_u32 x b.toNat (a - b + 1).toNat (by omega)
  go_enter Try.func27, Try.ntmps27
  go_wp2_with (go_at_call 36; refine (rfield_in _ _ _ _ (by omega) (by omega) (by omega) (by omega) (by omega) (by omega)).mono ?_; rintro e w' ⟨rfl, rfl⟩)
  go_ret
  exact ⟨rfl, rfl⟩

set_option maxHeartbeats 400000 in
theorem efew_any (x l : Int) (w : World) (hx : 0 ≤ x) (hx' : x < 65536) (hb : 0 ≤ l) (hb' : l ≤ 20) :
    Calls Try.prog 28 #[.int .u32 x, .int .i64 l] w fun e w' => e = .returned (.int .i64 (8 + fld x l.toNat 3)) ∧ w = w' := by
  have f0 := fld_nonneg x l.toNat 3
  have f1 : fld x l.toNat 3 < 8 := fld_lt x l.toNat 3
  go_enter Try.func28, Try.ntmps28
  go_wp2_with (go_at_call 27; refine (efield_any _ _ _ 3 _ hx hx' (by omega) (by omega) (by omega) (by omega) (by omega)).mono ?_; rintro e w' ⟨rfl, rfl⟩)
  go_ret
  exact ⟨rfl, rfl⟩

set_option maxHeartbeats 1000000 in
theorem elist_any (nn : Int) (l : List Int) (g n c m : Nat) (w : World) (h0 : 0 ≤ nn) (h1 : nn ≤ 100) (hn : l.length = n) (hl : n ≤ 100) (hp : 0 < n) (hm : n + nn.toNat = m) (hi : Ints w g l) :
    Calls Try.prog 26 #[.int .i64 nn, .slice (some ⟨g, 0, none⟩) n c] w (RetRow w m (l ++ List.replicate nn.toNat (-1))) := by
  subst hm
  have HI := Lib.hid hi
  clear hi
  go_enter Try.func26, Try.ntmps26
  have OA := Lib.hid (own_new w w.heap.size 0 [] rfl (Nat.le_refl _) (by omega))
  have n1 : Nx w (w.alloc (.cells #[] 3)) := (Nx.refl _).alloc _
  have I1 := Lib.hid (HI.out.keep n1)
  have tok : True := trivial
  go_wp2_with (at_builtin; have _t := tok; refine wp_append_row rfl _ _ rfl w.heap.size w.heap.size 0 0 g n c n [] l rfl rfl OA.out hn I1.out (Nat.zero_add n) hp (by omega) n1.size ?_; intro gR cR w3 oR gr3; have OR := Lib.hid oR; have n3 : Nx w w3 := Nx.grown n1 gr3 (fun k hk => by have e := Option.some.inj hk; subst e; exact Nat.le_refl _); clear oR gr3; clear tok)
  clear OA n1 I1
  go_loopw [5, 6] (fun v i wr => ∃ k g' c' : Nat, (k : Int) ≤ nn ∧ i = .int .i64 k ∧ v = .slice (some ⟨g', 0, none⟩) (n + k) c' ∧ Hid (wr.ownsRow w.heap.size 3 1 v (n + k) ((l ++ List.replicate k (-1)).map (Value.int .i64))) ∧ Nx w wr) (fun _ i _ => (nn - intOf i).toNat)
  case atStart => exact ⟨0, gR, cR, by omega, rfl, rfl, Lib.hid (by simpa using OR.out), n3⟩
  case round =>
    clear OR n3
    obtain ⟨k, g', c', hk, rfl, rfl, hown, hnx⟩ := hrel
    by_cases hlt : (k : Int) < nn
    · have O2 := Lib.hid (own_nx hown.out ((Nx.refl wr).alloc (.cells #[.int .i64 (-1)] 3)))
      have J2 : Ints (wr.alloc (.cells #[.int .i64 (-1)] 3)) wr.heap.size [-1] := by
        intro j x hx
        cases j with
        | zero => have e : -1 = x := by simpa using hx
                  subst e; simp
        | succ j => simp at hx
      have I2 := Lib.hid J2
      clear J2
      have HT := Lib.hid (show (l ++ List.replicate k (-1)) ++ [-1] = l ++ List.replicate (k + 1) (-1) by rw [List.append_assoc, List.replicate_succ'])
      go_wp2_with (at_builtin; refine wp_append_row rfl _ _ rfl w.heap.size g' (n + k) c' wr.heap.size 1 1 (n + (k + 1)) _ [-1] rfl rfl O2.out rfl I2.out (by omega) (by omega) (by omega) (hnx.alloc _).size ?_; intro gR cR w3 oR gr3; rw [HT.out] at oR; have OR := Lib.hid oR; have n3 : Nx w w3 := Nx.grown (hnx.alloc _) gr3 (fun k hk => by have e := Option.some.inj hk; subst e; exact own_block hown.out _ rfl); clear oR gr3)
      go_roundw
      case rel => exact ⟨k + 1, gR, cR, by omega, by go_num, rfl, OR, n3⟩
      case measure => simp [intOf]; omega
    · have e : nn.toNat = k := by omega
      have HE := Lib.hid e
      clear e
      go_wp2
      go_ret
      rw [HE.out]
      exact ⟨g', c', rfl, hown.out, hnx⟩

set_option maxHeartbeats 1000000 in
theorem eplain_any (x : Int) (l : List Int) (g n c : Nat) (w : World) (hx : 0 ≤ x) (hx' : x < 65536) (hn : l.length = n) (hl : n ≤ 100) (hi : Ints w g l) :
    Calls Try.prog 25 #[.int .u32 x, .slice (some ⟨g, 0, none⟩) n c] w fun e w' => e = .returned (.int .i32 (sgn (hor x 0 (-1 :: l)) (cl (1 + n : Nat)))) ∧ Nx w w' := by
  have HI := Lib.hid hi
  clear hi
  go_enter Try.func25, Try.ntmps25
  have OA := Lib.hid (own_new w w.heap.size 1 [-1] rfl (Nat.le_refl _) (by omega))
  have n1 : Nx w (w.alloc (.cells #[.int .i64 (-1)] 3)) := (Nx.refl _).alloc _
  have I1 := Lib.hid (HI.out.keep n1)
  have tok : True := trivial
  go_wp2_with (at_builtin; have _t := tok; refine wp_append_row rfl _ _ rfl w.heap.size w.heap.size 1 1 g n c (1 + n) [-1] l rfl rfl OA.out hn I1.out rfl (by omega) (by omega) n1.size ?_; intro gR cR w3 oR gr3; have OR := Lib.hid oR; have n3 : Nx w w3 := Nx.grown n1 gr3 (fun k hk => by have e := Option.some.inj hk; subst e; exact Nat.le_refl _); clear oR gr3; clear tok)
  have II := Lib.hid (own_row OR.out (by simp; omega))
  refine (bits_any x gR (1 + n) cR ([-1] ++ l) (by simp; omega) w3 hx (by omega) (by simp; omega) II.out).mono ?_
  rintro e w99 ⟨rfl, rfl⟩
  go_wp2
  go_ret
  exact ⟨ret_i32 rfl, n3⟩

end Go.Proofs.Ytcdjabfhmhibjaa
