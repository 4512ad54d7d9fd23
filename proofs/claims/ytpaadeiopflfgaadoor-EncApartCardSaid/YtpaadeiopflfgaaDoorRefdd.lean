/- Contracts of package typecaseref04: a word's operation, its instruction. -/
import Derived.Test.YtpaadeiopflfgaaDoorRefdc
import Derived.Test.YtpaadeiopflfgaaDoorPlainf
namespace Go.Proofs.YtpaadeiopflfgaaDoor
open Go.RowKit
set_option linter.unusedVariables false

theorem fld123 (x : Int) : fld x 12 3 = x / 4096 % 8 := by simp [fld]

theorem fld257 (x : Int) : fld x 25 7 = x / 33554432 % 128 := by simp [fld]

/-- Of a list of names: by each of the eight, the operation. -/
theorem at8 (l : List (List UInt8)) (F : Int → Int) (h : ∀ k : Fin 8, atN l k.val = F k.val) (f : Int) (h0 : 0 ≤ f) (h8 : f < 8) : atN l f.toNat = F f := by
  obtain ⟨n, rfl⟩ := Int.eq_ofNat_of_zero_le h0
  rw [Int.toNat_natCast]
  exact h ⟨n, by omega⟩

set_option maxHeartbeats 1000000 in
theorem rop_55 (x : Int) (w : World) (hx : 0 ≤ x) (hx' : x < 4294967296) (ho : x % 128 = 55) :
    Calls Tryd.prog 27 #[.int .u32 x] w fun e w' => e = .returned (.int .i64 (decP x).op) ∧ Nx w w' := by
  have f1 := fld_nonneg x 12 3
  have f2 : fld x 12 3 < 8 := fld_lt x 12 3
  have g1 := fld_nonneg x 25 7
  have g2 : fld x 25 7 < 128 := fld_lt x 25 7
  have HR : Hid (1 = (decP x).op) := by
    show _ = _
    unfold decP; simp [ho]
  go_enter Tryd.func27, Tryd.ntmps27
  go_wp2_with (first | (go_at_call 28; refine (rfield_in _ _ _ _ hx hx' (by omega) (by omega) (by omega) (by omega)).mono ?_; rintro e w' ⟨rfl, rfl⟩))
  go_ret
  exact ⟨ret_i64 HR.out, Nx.refl _⟩

set_option maxHeartbeats 1000000 in
theorem rop_23 (x : Int) (w : World) (hx : 0 ≤ x) (hx' : x < 4294967296) (ho : x % 128 = 23) :
    Calls Tryd.prog 27 #[.int .u32 x] w fun e w' => e = .returned (.int .i64 (decP x).op) ∧ Nx w w' := by
  have f1 := fld_nonneg x 12 3
  have f2 : fld x 12 3 < 8 := fld_lt x 12 3
  have g1 := fld_nonneg x 25 7
  have g2 : fld x 25 7 < 128 := fld_lt x 25 7
  have HR : Hid (2 = (decP x).op) := by
    show _ = _
    unfold decP; simp [ho]
  go_enter Tryd.func27, Tryd.ntmps27
  go_wp2_with (first | (go_at_call 28; refine (rfield_in _ _ _ _ hx hx' (by omega) (by omega) (by omega) (by omega)).mono ?_; rintro e w' ⟨rfl, rfl⟩))
  go_ret
  exact ⟨ret_i64 HR.out, Nx.refl _⟩

set_option maxHeartbeats 1000000 in
theorem rop_111 (x : Int) (w : World) (hx : 0 ≤ x) (hx' : x < 4294967296) (ho : x % 128 = 111) :
    Calls Tryd.prog 27 #[.int .u32 x] w fun e w' => e = .returned (.int .i64 (decP x).op) ∧ Nx w w' := by
  have f1 := fld_nonneg x 12 3
  have f2 : fld x 12 3 < 8 := fld_lt x 12 3
  have g1 := fld_nonneg x 25 7
  have g2 : fld x 25 7 < 128 := fld_lt x 25 7
  have HR : Hid (3 = (decP x).op) := by
    show _ = _
    unfold decP; simp [ho]
  go_enter Tryd.func27, Tryd.ntmps27
  go_wp2_with (first | (go_at_call 28; refine (rfield_in _ _ _ _ hx hx' (by omega) (by omega) (by omega) (by omega)).mono ?_; rintro e w' ⟨rfl, rfl⟩))
  go_ret
  exact ⟨ret_i64 HR.out, Nx.refl _⟩

set_option maxHeartbeats 1000000 in
theorem rop_103 (x : Int) (w : World) (hx : 0 ≤ x) (hx' : x < 4294967296) (ho : x % 128 = 103) :
    Calls Tryd.prog 27 #[.int .u32 x] w fun e w' => e = .returned (.int .i64 (decP x).op) ∧ Nx w w' := by
  have f1 := fld_nonneg x 12 3
  have f2 : fld x 12 3 < 8 := fld_lt x 12 3
  have g1 := fld_nonneg x 25 7
  have g2 : fld x 25 7 < 128 := fld_lt x 25 7
  have HR : Hid (atN [[106, 97, 108, 114]] (fld x 12 3).toNat = (decP x).op) := by
    show _ = _
    rw [at8 _ (fun f => nuOp 103 f) (by decide +kernel) _ f1 f2, fld123]
    unfold decP; simp [ho]
  have HS := fun (w : World) => Lib.hid (Strs.new w [[106, 97, 108, 114]] 9)
  go_enter Tryd.func27, Tryd.ntmps27
  go_wp2_with (first | (go_at_call 28; refine (rfield_in _ _ _ _ hx hx' (by omega) (by omega) (by omega) (by omega)).mono ?_; rintro e w' ⟨rfl, rfl⟩) | (go_at_call 44; refine (at_any [[106, 97, 108, 114]] _ 1 rfl _ _ (by omega) (by omega) (by omega) (HS _).out).mono ?_; rintro e w' ⟨rfl, hn⟩))
  go_ret
  exact ⟨ret_i64 HR.out, ((Nx.refl _).alloc _).trans hn⟩

set_option maxHeartbeats 1000000 in
theorem rop_99 (x : Int) (w : World) (hx : 0 ≤ x) (hx' : x < 4294967296) (ho : x % 128 = 99) :
    Calls Tryd.prog 27 #[.int .u32 x] w fun e w' => e = .returned (.int .i64 (decP x).op) ∧ Nx w w' := by
  have f1 := fld_nonneg x 12 3
  have f2 : fld x 12 3 < 8 := fld_lt x 12 3
  have g1 := fld_nonneg x 25 7
  have g2 : fld x 25 7 < 128 := fld_lt x 25 7
  have HR : Hid (atN [[98, 101, 113], [98, 110, 101], [], [], [98, 108, 116], [98, 103, 101], [98, 108, 116, 117], [98, 103, 101, 117]] (fld x 12 3).toNat = (decP x).op) := by
    show _ = _
    rw [at8 _ (fun f => brOp f) (by decide +kernel) _ f1 f2, fld123]
    unfold decP; simp [ho]
  have HS := fun (w : World) => Lib.hid (Strs.new w [[98, 101, 113], [98, 110, 101], [], [], [98, 108, 116], [98, 103, 101], [98, 108, 116, 117], [98, 103, 101, 117]] 9)
  go_enter Tryd.func27, Tryd.ntmps27
  go_wp2_with (first | (go_at_call 28; refine (rfield_in _ _ _ _ hx hx' (by omega) (by omega) (by omega) (by omega)).mono ?_; rintro e w' ⟨rfl, rfl⟩) | (go_at_call 44; refine (at_any [[98, 101, 113], [98, 110, 101], [], [], [98, 108, 116], [98, 103, 101], [98, 108, 116, 117], [98, 103, 101, 117]] _ 8 rfl _ _ (by omega) (by omega) (by omega) (HS _).out).mono ?_; rintro e w' ⟨rfl, hn⟩))
  go_ret
  exact ⟨ret_i64 HR.out, ((Nx.refl _).alloc _).trans hn⟩

set_option maxHeartbeats 1000000 in
theorem rop_3 (x : Int) (w : World) (hx : 0 ≤ x) (hx' : x < 4294967296) (ho : x % 128 = 3) :
    Calls Tryd.prog 27 #[.int .u32 x] w fun e w' => e = .returned (.int .i64 (decP x).op) ∧ Nx w w' := by
  have f1 := fld_nonneg x 12 3
  have f2 : fld x 12 3 < 8 := fld_lt x 12 3
  have g1 := fld_nonneg x 25 7
  have g2 : fld x 25 7 < 128 := fld_lt x 25 7
  have HR : Hid (atN [[108, 98], [108, 104], [108, 119], [], [108, 98, 117], [108, 104, 117]] (fld x 12 3).toNat = (decP x).op) := by
    show _ = _
    rw [at8 _ (fun f => nuOp 3 f) (by decide +kernel) _ f1 f2, fld123]
    unfold decP; simp [ho]
  have HS := fun (w : World) => Lib.hid (Strs.new w [[108, 98], [108, 104], [108, 119], [], [108, 98, 117], [108, 104, 117]] 9)
  go_enter Tryd.func27, Tryd.ntmps27
  go_wp2_with (first | (go_at_call 28; refine (rfield_in _ _ _ _ hx hx' (by omega) (by omega) (by omega) (by omega)).mono ?_; rintro e w' ⟨rfl, rfl⟩) | (go_at_call 44; refine (at_any [[108, 98], [108, 104], [108, 119], [], [108, 98, 117], [108, 104, 117]] _ 6 rfl _ _ (by omega) (by omega) (by omega) (HS _).out).mono ?_; rintro e w' ⟨rfl, hn⟩))
  go_ret
  exact ⟨ret_i64 HR.out, ((Nx.refl _).alloc _).trans hn⟩

set_option maxHeartbeats 1000000 in
theorem rop_35 (x : Int) (w : World) (hx : 0 ≤ x) (hx' : x < 4294967296) (ho : x % 128 = 35) :
    Calls Tryd.prog 27 #[.int .u32 x] w fun e w' => e = .returned (.int .i64 (decP x).op) ∧ Nx w w' := by
  have f1 := fld_nonneg x 12 3
  have f2 : fld x 12 3 < 8 := fld_lt x 12 3
  have g1 := fld_nonneg x 25 7
  have g2 : fld x 25 7 < 128 := fld_lt x 25 7
  have HR : Hid (atN [[115, 98], [115, 104], [115, 119]] (fld x 12 3).toNat = (decP x).op) := by
    show _ = _
    rw [at8 _ (fun f => stOp f) (by decide +kernel) _ f1 f2, fld123]
    unfold decP; simp [ho]
  have HS := fun (w : World) => Lib.hid (Strs.new w [[115, 98], [115, 104], [115, 119]] 9)
  go_enter Tryd.func27, Tryd.ntmps27
  go_wp2_with (first | (go_at_call 28; refine (rfield_in _ _ _ _ hx hx' (by omega) (by omega) (by omega) (by omega)).mono ?_; rintro e w' ⟨rfl, rfl⟩) | (go_at_call 44; refine (at_any [[115, 98], [115, 104], [115, 119]] _ 3 rfl _ _ (by omega) (by omega) (by omega) (HS _).out).mono ?_; rintro e w' ⟨rfl, hn⟩))
  go_ret
  exact ⟨ret_i64 HR.out, ((Nx.refl _).alloc _).trans hn⟩

set_option maxHeartbeats 1000000 in
theorem rop_15 (x : Int) (w : World) (hx : 0 ≤ x) (hx' : x < 4294967296) (ho : x % 128 = 15) :
    Calls Tryd.prog 27 #[.int .u32 x] w fun e w' => e = .returned (.int .i64 (decP x).op) ∧ Nx w w' := by
  have f1 := fld_nonneg x 12 3
  have f2 : fld x 12 3 < 8 := fld_lt x 12 3
  have g1 := fld_nonneg x 25 7
  have g2 : fld x 25 7 < 128 := fld_lt x 25 7
  have HR : Hid (atN [[102, 101, 110, 99, 101]] (fld x 12 3).toNat = (decP x).op) := by
    show _ = _
    rw [at8 _ (fun f => if f = 0 then 38 else 0) (by decide +kernel) _ f1 f2, fld123]
    have h1 : ¬ x = 115 := by omega
    have h2 : ¬ x = 1048691 := by omega
    unfold decP baOp; simp [ho, h1, h2]
  have HS := fun (w : World) => Lib.hid (Strs.new w [[102, 101, 110, 99, 101]] 9)
  go_enter Tryd.func27, Tryd.ntmps27
  go_wp2_with (first | (go_at_call 28; refine (rfield_in _ _ _ _ hx hx' (by omega) (by omega) (by omega) (by omega)).mono ?_; rintro e w' ⟨rfl, rfl⟩) | (go_at_call 44; refine (at_any [[102, 101, 110, 99, 101]] _ 1 rfl _ _ (by omega) (by omega) (by omega) (HS _).out).mono ?_; rintro e w' ⟨rfl, hn⟩))
  go_ret
  exact ⟨ret_i64 HR.out, ((Nx.refl _).alloc _).trans hn⟩

set_option maxHeartbeats 1000000 in
theorem rop_19a (x : Int) (w : World) (hx : 0 ≤ x) (hx' : x < 4294967296) (ho : x % 128 = 19) (hf : fld x 12 3 = 1) (hg : ¬ fld x 25 7 = 0) :
    Calls Tryd.prog 27 #[.int .u32 x] w fun e w' => e = .returned (.int .i64 (decP x).op) ∧ Nx w w' := by
  have f1 := fld_nonneg x 12 3
  have f2 : fld x 12 3 < 8 := fld_lt x 12 3
  have g1 := fld_nonneg x 25 7
  have g2 : fld x 25 7 < 128 := fld_lt x 25 7
  have HR : Hid (0 = (decP x).op) := by
    show _ = _
    rw [fld123] at hf; rw [fld257] at hg
    unfold decP shOp; simp [ho, hf, hg]
  have hg' : (fld x 25 7 != 0) = true := by rw [bne_iff_ne]; exact hg
  go_enter Tryd.func27, Tryd.ntmps27
  go_wp2_with (first | (go_at_call 28; refine (rfield_in _ _ _ _ hx hx' (by omega) (by omega) (by omega) (by omega)).mono ?_; rintro e w' ⟨rfl, rfl⟩))
  go_ret
  exact ⟨ret_i64 HR.out, Nx.refl _⟩

set_option maxHeartbeats 1000000 in
theorem rop_19b (x : Int) (w : World) (hx : 0 ≤ x) (hx' : x < 4294967296) (ho : x % 128 = 19) (hf : fld x 12 3 = 5) (hg : ¬ fld x 25 7 = 0) (hg2 : ¬ fld x 25 7 = 32) :
    Calls Tryd.prog 27 #[.int .u32 x] w fun e w' => e = .returned (.int .i64 (decP x).op) ∧ Nx w w' := by
  have f1 := fld_nonneg x 12 3
  have f2 : fld x 12 3 < 8 := fld_lt x 12 3
  have g1 := fld_nonneg x 25 7
  have g2 : fld x 25 7 < 128 := fld_lt x 25 7
  have HR : Hid (0 = (decP x).op) := by
    show _ = _
    rw [fld123] at hf; rw [fld257] at hg hg2
    unfold decP shOp; simp [ho, hf, hg, hg2]
  have hg' : (fld x 25 7 != 0) = true := by rw [bne_iff_ne]; exact hg
  have hg2' : (fld x 25 7 != 32) = true := by rw [bne_iff_ne]; exact hg2
  go_enter Tryd.func27, Tryd.ntmps27
  go_wp2_with (first | (go_at_call 28; refine (rfield_in _ _ _ _ hx hx' (by omega) (by omega) (by omega) (by omega)).mono ?_; rintro e w' ⟨rfl, rfl⟩))
  go_ret
  exact ⟨ret_i64 HR.out, Nx.refl _⟩

set_option maxHeartbeats 1000000 in
theorem rop_19c (x : Int) (w : World) (hx : 0 ≤ x) (hx' : x < 4294967296) (ho : x % 128 = 19) (hf : fld x 12 3 = 5) (hg : fld x 25 7 = 32) :
    Calls Tryd.prog 27 #[.int .u32 x] w fun e w' => e = .returned (.int .i64 (decP x).op) ∧ Nx w w' := by
  have f1 := fld_nonneg x 12 3
  have f2 : fld x 12 3 < 8 := fld_lt x 12 3
  have g1 := fld_nonneg x 25 7
  have g2 : fld x 25 7 < 128 := fld_lt x 25 7
  have HR : Hid (atN [[115, 114, 97, 105]] 0 = (decP x).op) := by
    show _ = _
    rw [fld123] at hf; rw [fld257] at hg
    unfold decP; simp [ho, hf, hg]; decide +kernel
  have HS := fun (w : World) => Lib.hid (Strs.new w [[115, 114, 97, 105]] 9)
  go_enter Tryd.func27, Tryd.ntmps27
  go_wp2_with (first | (go_at_call 28; refine (rfield_in _ _ _ _ hx hx' (by omega) (by omega) (by omega) (by omega)).mono ?_; rintro e w' ⟨rfl, rfl⟩) | (go_at_call 44; refine (at_any [[115, 114, 97, 105]] _ 1 rfl _ _ (by omega) (by omega) (by omega) (HS _).out).mono ?_; rintro e w' ⟨rfl, hn⟩))
  go_ret
  exact ⟨ret_i64 HR.out, ((Nx.refl _).alloc _).trans hn⟩

set_option maxHeartbeats 1000000 in
theorem rop_19d (x : Int) (w : World) (hx : 0 ≤ x) (hx' : x < 4294967296) (ho : x % 128 = 19) (hf : fld x 12 3 = 1) (hg : fld x 25 7 = 0) :
    Calls Tryd.prog 27 #[.int .u32 x] w fun e w' => e = .returned (.int .i64 (decP x).op) ∧ Nx w w' := by
  have f1 := fld_nonneg x 12 3
  have f2 : fld x 12 3 < 8 := fld_lt x 12 3
  have g1 := fld_nonneg x 25 7
  have g2 : fld x 25 7 < 128 := fld_lt x 25 7
  have HR : Hid (atN [[97, 100, 100, 105], [115, 108, 108, 105], [115, 108, 116, 105], [115, 108, 116, 105, 117], [120, 111, 114, 105], [115, 114, 108, 105], [111, 114, 105], [97, 110, 100, 105]] 1 = (decP x).op) := by
    show _ = _
    rw [fld123] at hf; rw [fld257] at hg
    unfold decP; simp [ho, hf, hg]; decide +kernel
  have HS := fun (w : World) => Lib.hid (Strs.new w [[97, 100, 100, 105], [115, 108, 108, 105], [115, 108, 116, 105], [115, 108, 116, 105, 117], [120, 111, 114, 105], [115, 114, 108, 105], [111, 114, 105], [97, 110, 100, 105]] 9)
  go_enter Tryd.func27, Tryd.ntmps27
  go_wp2_with (first | (go_at_call 28; refine (rfield_in _ _ _ _ hx hx' (by omega) (by omega) (by omega) (by omega)).mono ?_; rintro e w' ⟨rfl, rfl⟩) | (go_at_call 44; refine (at_any [[97, 100, 100, 105], [115, 108, 108, 105], [115, 108, 116, 105], [115, 108, 116, 105, 117], [120, 111, 114, 105], [115, 114, 108, 105], [111, 114, 105], [97, 110, 100, 105]] _ 8 rfl _ _ (by omega) (by omega) (by omega) (HS _).out).mono ?_; rintro e w' ⟨rfl, hn⟩))
  go_ret
  exact ⟨ret_i64 HR.out, ((Nx.refl _).alloc _).trans hn⟩

set_option maxHeartbeats 1000000 in
theorem rop_19e (x : Int) (w : World) (hx : 0 ≤ x) (hx' : x < 4294967296) (ho : x % 128 = 19) (hf : fld x 12 3 = 5) (hg : fld x 25 7 = 0) :
    Calls Tryd.prog 27 #[.int .u32 x] w fun e w' => e = .returned (.int .i64 (decP x).op) ∧ Nx w w' := by
  have f1 := fld_nonneg x 12 3
  have f2 : fld x 12 3 < 8 := fld_lt x 12 3
  have g1 := fld_nonneg x 25 7
  have g2 : fld x 25 7 < 128 := fld_lt x 25 7
  have HR : Hid (atN [[97, 100, 100, 105], [115, 108, 108, 105], [115, 108, 116, 105], [115, 108, 116, 105, 117], [120, 111, 114, 105], [115, 114, 108, 105], [111, 114, 105], [97, 110, 100, 105]] 5 = (decP x).op) := by
    show _ = _
    rw [fld123] at hf; rw [fld257] at hg
    unfold decP; simp [ho, hf, hg]; decide +kernel
  have HS := fun (w : World) => Lib.hid (Strs.new w [[97, 100, 100, 105], [115, 108, 108, 105], [115, 108, 116, 105], [115, 108, 116, 105, 117], [120, 111, 114, 105], [115, 114, 108, 105], [111, 114, 105], [97, 110, 100, 105]] 9)
  go_enter Tryd.func27, Tryd.ntmps27
  go_wp2_with (first | (go_at_call 28; refine (rfield_in _ _ _ _ hx hx' (by omega) (by omega) (by omega) (by omega)).mono ?_; rintro e w' ⟨rfl, rfl⟩) | (go_at_call 44; refine (at_any [[97, 100, 100, 105], [115, 108, 108, 105], [115, 108, 116, 105], [115, 108, 116, 105, 117], [120, 111, 114, 105], [115, 114, 108, 105], [111, 114, 105], [97, 110, 100, 105]] _ 8 rfl _ _ (by omega) (by omega) (by omega) (HS _).out).mono ?_; rintro e w' ⟨rfl, hn⟩))
  go_ret
  exact ⟨ret_i64 HR.out, ((Nx.refl _).alloc _).trans hn⟩

set_option maxHeartbeats 1000000 in
theorem rop_19f (x : Int) (w : World) (hx : 0 ≤ x) (hx' : x < 4294967296) (ho : x % 128 = 19) (hf : ¬ fld x 12 3 = 1) (hf5 : ¬ fld x 12 3 = 5) :
    Calls Tryd.prog 27 #[.int .u32 x] w fun e w' => e = .returned (.int .i64 (decP x).op) ∧ Nx w w' := by
  have f1 := fld_nonneg x 12 3
  have f2 : fld x 12 3 < 8 := fld_lt x 12 3
  have g1 := fld_nonneg x 25 7
  have g2 : fld x 25 7 < 128 := fld_lt x 25 7
  have HR : Hid (atN [[97, 100, 100, 105], [115, 108, 108, 105], [115, 108, 116, 105], [115, 108, 116, 105, 117], [120, 111, 114, 105], [115, 114, 108, 105], [111, 114, 105], [97, 110, 100, 105]] (fld x 12 3).toNat = (decP x).op) := by
    show _ = _
    rw [at8 _ (fun f => if f = 1 then 25 else if f = 5 then 26 else nuOp 19 f) (by decide +kernel) _ f1 f2, fld123]
    rw [fld123] at hf hf5
    unfold decP; simp [ho, hf, hf5]
  have hf' : (fld x 12 3 == 1) = false := beq_eq_false_iff_ne.2 hf
  have hf5' : (fld x 12 3 == 5) = false := beq_eq_false_iff_ne.2 hf5
  have HS := fun (w : World) => Lib.hid (Strs.new w [[97, 100, 100, 105], [115, 108, 108, 105], [115, 108, 116, 105], [115, 108, 116, 105, 117], [120, 111, 114, 105], [115, 114, 108, 105], [111, 114, 105], [97, 110, 100, 105]] 9)
  go_enter Tryd.func27, Tryd.ntmps27
  go_wp2_with (first | (go_at_call 28; refine (rfield_in _ _ _ _ hx hx' (by omega) (by omega) (by omega) (by omega)).mono ?_; rintro e w' ⟨rfl, rfl⟩) | (go_at_call 44; refine (at_any [[97, 100, 100, 105], [115, 108, 108, 105], [115, 108, 116, 105], [115, 108, 116, 105, 117], [120, 111, 114, 105], [115, 114, 108, 105], [111, 114, 105], [97, 110, 100, 105]] _ 8 rfl _ _ (by omega) (by omega) (by omega) (HS _).out).mono ?_; rintro e w' ⟨rfl, hn⟩))
  go_ret
  exact ⟨ret_i64 HR.out, ((Nx.refl _).alloc _).trans hn⟩

set_option maxHeartbeats 1000000 in
theorem rop_51a (x : Int) (w : World) (hx : 0 ≤ x) (hx' : x < 4294967296) (ho : x % 128 = 51) (hg : fld x 25 7 = 0) :
    Calls Tryd.prog 27 #[.int .u32 x] w fun e w' => e = .returned (.int .i64 (decP x).op) ∧ Nx w w' := by
  have f1 := fld_nonneg x 12 3
  have f2 : fld x 12 3 < 8 := fld_lt x 12 3
  have g1 := fld_nonneg x 25 7
  have g2 : fld x 25 7 < 128 := fld_lt x 25 7
  have HR : Hid (atN [[97, 100, 100], [115, 108, 108], [115, 108, 116], [115, 108, 116, 117], [120, 111, 114], [115, 114, 108], [111, 114], [97, 110, 100]] (fld x 12 3).toNat = (decP x).op) := by
    show _ = _
    rw [at8 _ (fun f => plOp f) (by decide +kernel) _ f1 f2, fld123]
    rw [fld257] at hg
    unfold decP rgOp; simp [ho, hg]
  have HS := fun (w : World) => Lib.hid (Strs.new w [[97, 100, 100], [115, 108, 108], [115, 108, 116], [115, 108, 116, 117], [120, 111, 114], [115, 114, 108], [111, 114], [97, 110, 100]] 9)
  go_enter Tryd.func27, Tryd.ntmps27
  go_wp2_with (first | (go_at_call 28; refine (rfield_in _ _ _ _ hx hx' (by omega) (by omega) (by omega) (by omega)).mono ?_; rintro e w' ⟨rfl, rfl⟩) | (go_at_call 44; refine (at_any [[97, 100, 100], [115, 108, 108], [115, 108, 116], [115, 108, 116, 117], [120, 111, 114], [115, 114, 108], [111, 114], [97, 110, 100]] _ 8 rfl _ _ (by omega) (by omega) (by omega) (HS _).out).mono ?_; rintro e w' ⟨rfl, hn⟩))
  go_ret
  exact ⟨ret_i64 HR.out, ((Nx.refl _).alloc _).trans hn⟩

set_option maxHeartbeats 1000000 in
theorem rop_51b (x : Int) (w : World) (hx : 0 ≤ x) (hx' : x < 4294967296) (ho : x % 128 = 51) (hg : fld x 25 7 = 32) :
    Calls Tryd.prog 27 #[.int .u32 x] w fun e w' => e = .returned (.int .i64 (decP x).op) ∧ Nx w w' := by
  have f1 := fld_nonneg x 12 3
  have f2 : fld x 12 3 < 8 := fld_lt x 12 3
  have g1 := fld_nonneg x 25 7
  have g2 : fld x 25 7 < 128 := fld_lt x 25 7
  have HR : Hid (atN [[115, 117, 98], [], [], [], [], [115, 114, 97]] (fld x 12 3).toNat = (decP x).op) := by
    show _ = _
    rw [at8 _ (fun f => rgOp f 32) (by decide +kernel) _ f1 f2, fld123]
    rw [fld257] at hg
    unfold decP; simp [ho, hg]
  have HS := fun (w : World) => Lib.hid (Strs.new w [[115, 117, 98], [], [], [], [], [115, 114, 97]] 9)
  go_enter Tryd.func27, Tryd.ntmps27
  go_wp2_with (first | (go_at_call 28; refine (rfield_in _ _ _ _ hx hx' (by omega) (by omega) (by omega) (by omega)).mono ?_; rintro e w' ⟨rfl, rfl⟩) | (go_at_call 44; refine (at_any [[115, 117, 98], [], [], [], [], [115, 114, 97]] _ 6 rfl _ _ (by omega) (by omega) (by omega) (HS _).out).mono ?_; rintro e w' ⟨rfl, hn⟩))
  go_ret
  exact ⟨ret_i64 HR.out, ((Nx.refl _).alloc _).trans hn⟩

set_option maxHeartbeats 1000000 in
theorem rop_51c (x : Int) (w : World) (hx : 0 ≤ x) (hx' : x < 4294967296) (ho : x % 128 = 51) (hg : fld x 25 7 = 1) :
    Calls Tryd.prog 27 #[.int .u32 x] w fun e w' => e = .returned (.int .i64 (decP x).op) ∧ Nx w w' := by
  have f1 := fld_nonneg x 12 3
  have f2 : fld x 12 3 < 8 := fld_lt x 12 3
  have g1 := fld_nonneg x 25 7
  have g2 : fld x 25 7 < 128 := fld_lt x 25 7
  have HR : Hid (atN [[109, 117, 108], [109, 117, 108, 104], [109, 117, 108, 104, 115, 117], [109, 117, 108, 104, 117], [100, 105, 118], [100, 105, 118, 117], [114, 101, 109], [114, 101, 109, 117]] (fld x 12 3).toNat = (decP x).op) := by
    show _ = _
    rw [at8 _ (fun f => rgOp f 1) (by decide +kernel) _ f1 f2, fld123]
    rw [fld257] at hg
    unfold decP; simp [ho, hg]
  have HS := fun (w : World) => Lib.hid (Strs.new w [[109, 117, 108], [109, 117, 108, 104], [109, 117, 108, 104, 115, 117], [109, 117, 108, 104, 117], [100, 105, 118], [100, 105, 118, 117], [114, 101, 109], [114, 101, 109, 117]] 9)
  go_enter Tryd.func27, Tryd.ntmps27
  go_wp2_with (first | (go_at_call 28; refine (rfield_in _ _ _ _ hx hx' (by omega) (by omega) (by omega) (by omega)).mono ?_; rintro e w' ⟨rfl, rfl⟩) | (go_at_call 44; refine (at_any [[109, 117, 108], [109, 117, 108, 104], [109, 117, 108, 104, 115, 117], [109, 117, 108, 104, 117], [100, 105, 118], [100, 105, 118, 117], [114, 101, 109], [114, 101, 109, 117]] _ 8 rfl _ _ (by omega) (by omega) (by omega) (HS _).out).mono ?_; rintro e w' ⟨rfl, hn⟩))
  go_ret
  exact ⟨ret_i64 HR.out, ((Nx.refl _).alloc _).trans hn⟩

set_option maxHeartbeats 1000000 in
theorem rop_51d (x : Int) (w : World) (hx : 0 ≤ x) (hx' : x < 4294967296) (ho : x % 128 = 51) (hg : ¬ fld x 25 7 = 0) (hg1 : ¬ fld x 25 7 = 1) (hg2 : ¬ fld x 25 7 = 32) :
    Calls Tryd.prog 27 #[.int .u32 x] w fun e w' => e = .returned (.int .i64 (decP x).op) ∧ Nx w w' := by
  have f1 := fld_nonneg x 12 3
  have f2 : fld x 12 3 < 8 := fld_lt x 12 3
  have g1 := fld_nonneg x 25 7
  have g2 : fld x 25 7 < 128 := fld_lt x 25 7
  have HR : Hid (0 = (decP x).op) := by
    show _ = _
    rw [fld257] at hg hg1 hg2
    unfold decP rgOp; simp [ho, hg, hg1, hg2]
  have hg' : (fld x 25 7 == 0) = false := beq_eq_false_iff_ne.2 hg
  have hg1' : (fld x 25 7 == 1) = false := beq_eq_false_iff_ne.2 hg1
  have hg2' : (fld x 25 7 == 32) = false := beq_eq_false_iff_ne.2 hg2
  go_enter Tryd.func27, Tryd.ntmps27
  go_wp2_with (first | (go_at_call 28; refine (rfield_in _ _ _ _ hx hx' (by omega) (by omega) (by omega) (by omega)).mono ?_; rintro e w' ⟨rfl, rfl⟩))
  go_ret
  exact ⟨ret_i64 HR.out, Nx.refl _⟩

set_option maxHeartbeats 1000000 in
theorem rop_115c (x : Int) (w : World) (hx : 0 ≤ x) (hx' : x < 4294967296) (ho : x % 128 = 115) (h1 : ¬ x = 115) (h2 : ¬ x = 1048691) :
    Calls Tryd.prog 27 #[.int .u32 x] w fun e w' => e = .returned (.int .i64 (decP x).op) ∧ Nx w w' := by
  have f1 := fld_nonneg x 12 3
  have f2 : fld x 12 3 < 8 := fld_lt x 12 3
  have g1 := fld_nonneg x 25 7
  have g2 : fld x 25 7 < 128 := fld_lt x 25 7
  have HR : Hid (0 = (decP x).op) := by
    show _ = _
    unfold decP baOp; simp [ho, h1, h2]
  have h1' : (x == 115) = false := beq_eq_false_iff_ne.2 h1
  have h2' : (x == 1048691) = false := beq_eq_false_iff_ne.2 h2
  go_enter Tryd.func27, Tryd.ntmps27
  go_wp2_with (first | (go_at_call 28; refine (rfield_in _ _ _ _ hx hx' (by omega) (by omega) (by omega) (by omega)).mono ?_; rintro e w' ⟨rfl, rfl⟩))
  go_ret
  exact ⟨ret_i64 HR.out, Nx.refl _⟩

set_option maxHeartbeats 1000000 in
theorem rop_115a (x : Int) (w : World) (hx : 0 ≤ x) (hx' : x < 4294967296) (ho : x = 115) :
    Calls Tryd.prog 27 #[.int .u32 x] w fun e w' => e = .returned (.int .i64 (decP x).op) ∧ Nx w w' := by
  have f1 := fld_nonneg x 12 3
  have f2 : fld x 12 3 < 8 := fld_lt x 12 3
  have g1 := fld_nonneg x 25 7
  have g2 : fld x 25 7 < 128 := fld_lt x 25 7
  have HR : Hid (atN [[101, 99, 97, 108, 108]] 0 = (decP x).op) := by
    show _ = _
    rw [ho]; decide +kernel
  subst ho
  have HS := fun (w : World) => Lib.hid (Strs.new w [[101, 99, 97, 108, 108]] 9)
  go_enter Tryd.func27, Tryd.ntmps27
  go_wp2_with (first | (go_at_call 28; refine (rfield_in _ _ _ _ hx hx' (by omega) (by omega) (by omega) (by omega)).mono ?_; rintro e w' ⟨rfl, rfl⟩) | (go_at_call 44; refine (at_any [[101, 99, 97, 108, 108]] _ 1 rfl _ _ (by omega) (by omega) (by omega) (HS _).out).mono ?_; rintro e w' ⟨rfl, hn⟩))
  go_ret
  exact ⟨ret_i64 HR.out, ((Nx.refl _).alloc _).trans hn⟩

set_option maxHeartbeats 1000000 in
theorem rop_115b (x : Int) (w : World) (hx : 0 ≤ x) (hx' : x < 4294967296) (ho : x = 1048691) :
    Calls Tryd.prog 27 #[.int .u32 x] w fun e w' => e = .returned (.int .i64 (decP x).op) ∧ Nx w w' := by
  have f1 := fld_nonneg x 12 3
  have f2 : fld x 12 3 < 8 := fld_lt x 12 3
  have g1 := fld_nonneg x 25 7
  have g2 : fld x 25 7 < 128 := fld_lt x 25 7
  have HR : Hid (atN [[101, 98, 114, 101, 97, 107]] 0 = (decP x).op) := by
    show _ = _
    rw [ho]; decide +kernel
  subst ho
  have HS := fun (w : World) => Lib.hid (Strs.new w [[101, 98, 114, 101, 97, 107]] 9)
  go_enter Tryd.func27, Tryd.ntmps27
  go_wp2_with (first | (go_at_call 28; refine (rfield_in _ _ _ _ hx hx' (by omega) (by omega) (by omega) (by omega)).mono ?_; rintro e w' ⟨rfl, rfl⟩) | (go_at_call 44; refine (at_any [[101, 98, 114, 101, 97, 107]] _ 1 rfl _ _ (by omega) (by omega) (by omega) (HS _).out).mono ?_; rintro e w' ⟨rfl, hn⟩))
  go_ret
  exact ⟨ret_i64 HR.out, ((Nx.refl _).alloc _).trans hn⟩

def known7 (x : Int) : Bool := x % 128 == 55 || x % 128 == 23 || x % 128 == 111 || x % 128 == 103 || x % 128 == 99 || x % 128 == 3 || x % 128 == 35 || x % 128 == 19 || x % 128 == 51 || x % 128 == 15 || x % 128 == 115

set_option maxHeartbeats 1000000 in
theorem rop_none (x : Int) (w : World) (hx : 0 ≤ x) (hx' : x < 4294967296) (ho : known7 x = false) :
    Calls Tryd.prog 27 #[.int .u32 x] w fun e w' => e = .returned (.int .i64 (decP x).op) ∧ Nx w w' := by
  simp only [known7, Bool.or_eq_false_iff] at ho
  obtain ⟨⟨⟨⟨⟨⟨⟨⟨⟨⟨h1, h2⟩, h3⟩, h4⟩, h5⟩, h6⟩, h7⟩, h8⟩, h9⟩, h10⟩, h11⟩ := ho
  have HR : Hid (0 = (decP x).op) := by
    show _ = _
    rw [beq_eq_false_iff_ne] at h1 h2 h3 h4 h5 h6 h7 h8 h9 h10 h11
    unfold decP; simp [h1, h2, h3, h4, h5, h6, h7, h8, h9, h10, h11, none5]
  go_enter Tryd.func27, Tryd.ntmps27
  go_wp2_with (first | (go_at_call 28; refine (rfield_in _ _ _ _ hx hx' (by omega) (by omega) (by omega) (by omega)).mono ?_; rintro e w' ⟨rfl, rfl⟩))
  go_ret
  exact ⟨ret_i64 HR.out, Nx.refl _⟩

theorem rop_any (x : Int) (w : World) (hx : 0 ≤ x) (hx' : x < 4294967296) :
    Calls Tryd.prog 27 #[.int .u32 x] w fun e w' => e = .returned (.int .i64 (decP x).op) ∧ Nx w w' := by
  by_cases h1 : x % 128 = 55
  · exact rop_55 x w hx hx' h1
  by_cases h2 : x % 128 = 23
  · exact rop_23 x w hx hx' h2
  by_cases h3 : x % 128 = 111
  · exact rop_111 x w hx hx' h3
  by_cases h4 : x % 128 = 103
  · exact rop_103 x w hx hx' h4
  by_cases h5 : x % 128 = 99
  · exact rop_99 x w hx hx' h5
  by_cases h6 : x % 128 = 3
  · exact rop_3 x w hx hx' h6
  by_cases h7 : x % 128 = 35
  · exact rop_35 x w hx hx' h7
  by_cases h8 : x % 128 = 19
  · by_cases f1 : fld x 12 3 = 1
    · by_cases g0 : fld x 25 7 = 0
      · exact rop_19d x w hx hx' h8 f1 g0
      · exact rop_19a x w hx hx' h8 f1 g0
    · by_cases f5 : fld x 12 3 = 5
      · by_cases g0 : fld x 25 7 = 0
        · exact rop_19e x w hx hx' h8 f5 g0
        · by_cases g1 : fld x 25 7 = 32
          · exact rop_19c x w hx hx' h8 f5 g1
          · exact rop_19b x w hx hx' h8 f5 g0 g1
      · exact rop_19f x w hx hx' h8 f1 f5
  by_cases h9 : x % 128 = 51
  · by_cases g0 : fld x 25 7 = 0
    · exact rop_51a x w hx hx' h9 g0
    · by_cases g1 : fld x 25 7 = 1
      · exact rop_51c x w hx hx' h9 g1
      · by_cases g2 : fld x 25 7 = 32
        · exact rop_51b x w hx hx' h9 g2
        · exact rop_51d x w hx hx' h9 g0 g1 g2
  by_cases h10 : x % 128 = 15
  · exact rop_15 x w hx hx' h10
  by_cases h11 : x % 128 = 115
  · by_cases a : x = 115
    · exact rop_115a x w hx hx' a
    · by_cases b : x = 1048691
      · exact rop_115b x w hx hx' b
      · exact rop_115c x w hx hx' h11 a b
  exact rop_none x w hx hx' (by simp [known7, h1, h2, h3, h4, h5, h6, h7, h8, h9, h10, h11])

end Go.Proofs.YtpaadeiopflfgaaDoor
