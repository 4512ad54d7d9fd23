/- Contracts of package enc: a word's number. -/
import Derived.Test.YtpaadeiopflfgaaDoorPut
import Derived.OpenShut
namespace Go.Proofs.YtpaadeiopflfgaaDoor
open Go.RowKit
set_option linter.unusedVariables false

/-- The number behind k pieces. -/
def numV (f x : Int) : Nat → Int
  | 0 => 0
  | k + 1 => bits BinOp.or IntKind.u32 (numV f x k) (fld x (pAt f k).toNat (pBits f k).toNat * 2 ^ (pFrom f k).toNat % 4294967296)

theorem numV_succ (f x : Int) (k : Nat) : numV f x (k + 1) = bits BinOp.or IntKind.u32 (numV f x k) (fld x (pAt f k).toNat (pBits f k).toNat * 2 ^ (pFrom f k).toNat % 4294967296) := rfl

def widN (f : Int) : Nat → Int
  | 0 => 0
  | k + 1 => (if widN f k < pFrom f k + pBits f k then pFrom f k + pBits f k else widN f k)

theorem widN_succ (f : Int) (k : Nat) : widN f (k + 1) = (if widN f k < pFrom f k + pBits f k then pFrom f k + pBits f k else widN f k) := rfl

theorem numV_bd (f x : Int) (k : Nat) : 0 ≤ numV f x k ∧ numV f x k < 4294967296 := by
  cases k with
  | zero => exact ⟨Int.le_refl 0, show (0 : Int) < 4294967296 by decide⟩
  | succ k => rw [numV_succ]; have := bounds_u32 (wf_bits BinOp.or IntKind.u32 (numV f x k) (fld x (pAt f k).toNat (pBits f k).toNat * 2 ^ (pFrom f k).toNat % 4294967296)); omega

theorem wid_ok (f : Int) (hf : 0 ≤ f) (hf' : f ≤ 9) : 0 ≤ widN f 4 ∧ widN f 4 ≤ 32 := by
  obtain ⟨n, rfl⟩ := Int.eq_ofNat_of_zero_le hf
  have h : ∀ n : Fin 10, 0 ≤ widN n.val 4 ∧ widN n.val 4 ≤ 32 := by decide
  exact h ⟨n, by omega⟩

/-- The number of a form that lies in a word. -/
def numG (f x : Int) : Int := if f = 7 then wrap32 (numV f x 4) else sgn (numV f x 4) (widN f 4).toNat

set_option maxHeartbeats 2000000 in
theorem number_any (fn : Nat) (x : Int) (w : World) (hx : 0 ≤ x) (hx' : x < 4294967296) (hfn2 : fn ≤ 9) (hP : Places w) :
    Calls Tryd.prog 35 #[.int .i64 fn, .int .u32 x] w fun e w' => e = .returned (.int .i32 (numG fn x)) ∧ Nx w w' := by
  have HP := Lib.hid hP
  clear hP
  go_enter Tryd.func35, Tryd.ntmps35
  go_wp2_with fail
  go_loopw [5, 6, 7, 8, 9] (fun v u _ _ i wr => ∃ k : Nat, k ≤ 4 ∧ i = .int .i64 k ∧ v = .int .u32 (numV fn x k) ∧ u = .int .i64 (widN fn k) ∧ Nx w wr) (fun _ _ _ _ i _ => 4 - (intOf i).toNat)
  case atStart => exact ⟨0, by omega, rfl, rfl, rfl, by with_reducible first | exact Nx.refl _ | (refine Nx.alloc ?_ _; exact Nx.refl _) | (refine Nx.alloc ?_ _; refine Nx.alloc ?_ _; exact Nx.refl _)⟩
  case round =>
    obtain ⟨k, hk, rfl, rfl, rfl, hnx⟩ := hrel
    by_cases hlt : k < 4
    · obtain ⟨a0, a1, a2⟩ := places_at (HP.out.keep hnx) fn k hfn2 hlt
      obtain ⟨b1, b2, b3, b4, b5, b6⟩ := places_ok fn k (by omega) (by omega) hlt
      have HW := Lib.hid (numV_succ fn x k)
      have HU := Lib.hid (widN_succ fn k)
      generalize pFrom fn k = pf at *
      generalize pAt fn k = pa at *
      generalize pBits fn k = pb at *
      have q2 : IntKind.i64.wrap pa = pa := IntWalk.i64_in _ (by omega)
      have q3 : IntKind.i64.wrap pb = pb := IntWalk.i64_in _ (by omega)
      go_wp2
      (refine wp_region_nx 13 (by kernel_rfl) (by kernel_rfl) ?_; simp only [List.take_succ_cons, List.take_zero, List.drop_succ_cons, List.drop_zero]; (repeat (refine wpQuiet_step (fun K hK => ?_); go_simp; first | (refine hK _ ?_; clear hK K) | (apply Exists.intro; refine ⟨fun w' hw' => ?_, hK _ ?_⟩; (first | rfl | (obtain ⟨hc, hf⟩ := nx_cells hw'; go_simp; rfl) | (go_at_call 20; exact (field_in _ _ _ _ (by omega) (by omega) (by omega) (by omega) (by omega) (by omega)).mono fun _ _ h => ⟨h.1, hw'.trans (Nx.of_eq h.2)⟩)); clear hK K))); refine wpQuiet_nil ?_; intro w5 hn5)
      clear q2 q3
      have q4 : IntKind.i16.wrap (pf + pb) = pf + pb := IntWalk.i16_in _ (by omega)
      have q5 : IntKind.i64.wrap (pf + pb) = pf + pb := IntWalk.i64_in _ (by omega)
      obtain ⟨hc5, hf5⟩ := nx_cells hn5
      go_wp2
      go_roundw
      case rel => exact ⟨k + 1, by omega, by go_num, congrArg _ (by first | exact HW.out.symm | (rw [wrap_u32]; exact HW.out.symm)), congrArg _ HU.out.symm, (hnx.alloc _).trans hn5⟩
      case measure => simp [intOf]; omega
    · have hk4 : k = 4 := by omega
      subst hk4
      obtain ⟨v1, v2⟩ := numV_bd fn x 4
      obtain ⟨u1, u2⟩ := wid_ok fn (by omega) (by omega)
      have HG : Hid (numG fn x = if (fn : Int) = 7 then wrap32 (numV fn x 4) else sgn (numV fn x 4) (widN fn 4).toNat) := rfl
      generalize numV fn x 4 = v at *
      generalize widN fn 4 = u at *
      by_cases h7 : (fn : Int) = 7
      · have hb : ((fn : Int) == 7) = true := by simpa using h7
        have HG' := Lib.hid (HG.out.trans (if_pos h7))
        clear HG h7
        go_wp2
        go_ret
        exact ⟨congrArg (fun v => Ending.returned (.int .i32 v)) HG'.out.symm, hnx⟩
      · have hb : ((fn : Int) == 7) = false := by simpa using h7
        have HG' := Lib.hid (HG.out.trans (if_neg h7))
        clear HG h7
        go_wp2_with (go_at_call 47; refine (sign_in _ _ _ v1 v2 u1 u2).mono ?_; rintro e w' ⟨rfl, rfl⟩)
        go_ret
        exact ⟨congrArg (fun v => Ending.returned (.int .i32 v)) HG'.out.symm, hnx⟩

end Go.Proofs.YtpaadeiopflfgaaDoor
