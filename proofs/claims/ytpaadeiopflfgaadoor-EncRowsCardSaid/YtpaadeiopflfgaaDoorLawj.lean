/- The walk of the law EncRows. -/
import Derived.Test.YtpaadeiopflfgaaDoorLawh
import Derived.Deep.RegionHeld3
namespace Go.Proofs.YtpaadeiopflfgaaDoor
open Go.RowKit
set_option linter.unusedVariables false
set_option linter.unusedSimpArgs false

theorem bv_bits_or (x y : Int) : BitVec.ofInt 32 (bits .or .u32 x y) = BitVec.ofInt 32 x ||| BitVec.ofInt 32 y := by
  show BitVec.ofInt 32 (IntKind.u32.wrap ((BitVec.ofInt 32 x ||| BitVec.ofInt 32 y).toNat : Int)) = _
  generalize BitVec.ofInt 32 x ||| BitVec.ofInt 32 y = b
  have := b.isLt
  rw [wrap_u32, Int.emod_eq_of_lt (by omega) (by omega), BitVec.ofInt_natCast, BitVec.ofNat_toNat, BitVec.setWidth_eq]

theorem bv_bits_andNot (x y : Int) : BitVec.ofInt 32 (bits .andNot .u32 x y) = BitVec.ofInt 32 x &&& ~~~BitVec.ofInt 32 y := by
  show BitVec.ofInt 32 (IntKind.u32.wrap ((BitVec.ofInt 32 x &&& ~~~BitVec.ofInt 32 y).toNat : Int)) = _
  generalize BitVec.ofInt 32 x &&& ~~~BitVec.ofInt 32 y = b
  have := b.isLt
  rw [wrap_u32, Int.emod_eq_of_lt (by omega) (by omega), BitVec.ofInt_natCast, BitVec.ofNat_toNat, BitVec.setWidth_eq]

theorem bv_mask (m x k : BitVec 32) (h : m &&& k = m) : (m ||| (x &&& ~~~k)) &&& k = m := by
  ext i hi
  have h1 := congrArg (fun b : BitVec 32 => b[i]) h
  simp only [BitVec.getElem_and, BitVec.getElem_or, BitVec.getElem_not] at *
  cases qm : m[i] <;> cases qk : k[i] <;> cases qx : x[i] <;> simp_all

theorem row_in_mask (j : Nat) (hj : j < 48) : BitVec.ofInt 32 (rowM ((j : Int) + 1)) &&& BitVec.ofInt 32 (rowK ((j : Int) + 1)) = BitVec.ofInt 32 (rowM ((j : Int) + 1)) ∧ ((BitVec.ofInt 32 (rowM ((j : Int) + 1))).toNat : Int) = rowM ((j : Int) + 1) ∧ 0 ≤ rowK ((j : Int) + 1) ∧ rowK ((j : Int) + 1) < 4294967296 ∧ bits BinOp.andNot IntKind.u32 (rowM ((j : Int) + 1)) (rowK ((j : Int) + 1)) = 0 := by
  have h : ∀ n : Fin 48, BitVec.ofInt 32 (rowM ((n.val : Int) + 1)) &&& BitVec.ofInt 32 (rowK ((n.val : Int) + 1)) = BitVec.ofInt 32 (rowM ((n.val : Int) + 1)) ∧ ((BitVec.ofInt 32 (rowM ((n.val : Int) + 1))).toNat : Int) = rowM ((n.val : Int) + 1) ∧ 0 ≤ rowK ((n.val : Int) + 1) ∧ rowK ((n.val : Int) + 1) < 4294967296 ∧ bits BinOp.andNot IntKind.u32 (rowM ((n.val : Int) + 1)) (rowK ((n.val : Int) + 1)) = 0 := by decide +kernel
  exact h ⟨j, hj⟩

def backW (x : Int) (j : Nat) : Int := bits .or .u32 (rowM ((j : Int) + 1)) (bits .andNot .u32 x (rowK ((j : Int) + 1)))

theorem backW_bd (x : Int) (j : Nat) : 0 ≤ backW x j ∧ backW x j < 4294967296 := by
  have := bounds_u32 (wf_bits BinOp.or IntKind.u32 (rowM ((j : Int) + 1)) (bits .andNot .u32 x (rowK ((j : Int) + 1))))
  unfold backW; omega

theorem backW_fit (x : Int) (j : Nat) (hj : j < 48) : fitR (backW x j) j = true := by
  obtain ⟨h1, h2, _⟩ := row_in_mask j hj
  unfold fitR
  rw [beq_iff_eq]
  show IntKind.u32.wrap ((BitVec.ofInt 32 (backW x j) &&& BitVec.ofInt 32 (rowK ((j : Int) + 1))).toNat : Int) = _
  unfold backW
  rw [bv_bits_or, bv_bits_andNot, bv_mask _ _ _ h1, h2, wrap_u32, ← h2]
  have := (BitVec.ofInt 32 (rowM ((j : Int) + 1))).isLt
  omega

theorem backW_got (x : Int) (j : Nat) (hj : j < 48) : getB (backW x j) = true ∧ (getI (backW x j)).op = (j : Int) + 1 := by
  obtain ⟨a, b⟩ := backW_bd x j
  obtain ⟨h1, h2⟩ := fit_dec (backW x j) a b j hj (backW_fit x j hj)
  refine ⟨h2, ?_⟩
  unfold getI
  rw [if_pos h2]; exact h1

/-- How many of the first k rows a word fits. -/
def cnt (x : Int) : Nat → Int
  | 0 => 0
  | k + 1 => cnt x k + (if fitR x k = true then 1 else 0)

theorem cnt_le (x : Int) (hx : 0 ≤ x) (hx' : x < 4294967296) (k : Nat) (hk : k ≤ 48) : 0 ≤ cnt x k ∧ (cnt x k = 0 ∨ (cnt x k = 1 ∧ ∃ j, j < k ∧ fitR x j = true)) := by
  induction k with
  | zero => exact ⟨Int.le_refl 0, Or.inl rfl⟩
  | succ k ih =>
    obtain ⟨h0, h1⟩ := ih (by omega)
    have e : cnt x (k + 1) = cnt x k + (if fitR x k = true then 1 else 0) := rfl
    by_cases hf : fitR x k = true
    · rw [e, if_pos hf]
      rcases h1 with h1 | ⟨_, j, hj, hf'⟩
      · rw [h1]; exact ⟨by decide, Or.inr ⟨rfl, k, by omega, hf⟩⟩
      · have := fit_one x hx hx' j k (by omega) (by omega) hf' hf
        omega
    · rw [e, if_neg hf, Int.add_zero]
      refine ⟨h0, ?_⟩
      rcases h1 with h1 | ⟨h1, j, hj, hf'⟩
      · exact Or.inl h1
      · exact Or.inr ⟨h1, j, by omega, hf'⟩

theorem five_then {w w2 : World} {T : TypeId} {a b c d e : Value} {P : Prop} (n : Nat) (hn : w.heap.size = n) (h : Nx (w.alloc (.cells #[a, b, c, d, e] T)) w2)
    (k : (w2.cell? ⟨n, 0, none⟩ = some a ∧ w2.cell? ⟨n, 1, none⟩ = some b ∧ w2.cell? ⟨n, 2, none⟩ = some c ∧ w2.cell? ⟨n, 3, none⟩ = some d ∧ w2.cell? ⟨n, 4, none⟩ = some e ∧
    w2.frozen? ⟨n, 0, none⟩ = false ∧ w2.frozen? ⟨n, 1, none⟩ = false ∧ w2.frozen? ⟨n, 2, none⟩ = false ∧ w2.frozen? ⟨n, 3, none⟩ = false ∧ w2.frozen? ⟨n, 4, none⟩ = false ∧ n < w2.heap.size) → P) : P := by
  subst hn; exact k (five_cells h)

theorem five_kept {w w4 : World} {a1 a2 : Addr} {v1 v2 b0 b1 b2 b3 b4 : Value} (hn : Nx w w4) (hs : w.heap.size ≤ w4.heap.size) (h1 : w.cell? a1 = some v1) (h2 : w.cell? a2 = some v2) :
    (((((w4.setCell ⟨w.heap.size, 0, none⟩ b0).setCell ⟨w.heap.size, 1, none⟩ b1).setCell ⟨w.heap.size, 2, none⟩ b2).setCell ⟨w.heap.size, 3, none⟩ b3).setCell ⟨w.heap.size, 4, none⟩ b4).cell? a1 = some v1 ∧
    (((((w4.setCell ⟨w.heap.size, 0, none⟩ b0).setCell ⟨w.heap.size, 1, none⟩ b1).setCell ⟨w.heap.size, 2, none⟩ b2).setCell ⟨w.heap.size, 3, none⟩ b3).setCell ⟨w.heap.size, 4, none⟩ b4).cell? a2 = some v2 ∧
    Nx w (((((w4.setCell ⟨w.heap.size, 0, none⟩ b0).setCell ⟨w.heap.size, 1, none⟩ b1).setCell ⟨w.heap.size, 2, none⟩ b2).setCell ⟨w.heap.size, 3, none⟩ b3).setCell ⟨w.heap.size, 4, none⟩ b4) := by
  have h := ((((hn.setCell (p := ⟨w.heap.size, 0, none⟩) (Nat.le_refl _) b0).setCell (p := ⟨w.heap.size, 1, none⟩) (Nat.le_refl _) b1).setCell (p := ⟨w.heap.size, 2, none⟩) (Nat.le_refl _) b2).setCell (p := ⟨w.heap.size, 3, none⟩) (Nat.le_refl _) b3).setCell (p := ⟨w.heap.size, 4, none⟩) (Nat.le_refl _) b4
  exact ⟨h.cell h1, h.cell h2, h⟩

set_option maxHeartbeats 2000000 in
theorem EncRows_walk (x n : Int) (hx : 0 ≤ x) (hx' : x < 4294967296) (hn0 : 0 ≤ n) (hn1 : n < 256) (w : World) (hP : Places w) :
    Calls Tryd.prog 5 #[.int .u32 x, .int .u8 n] w fun e w' => e = .returned (.bool true) ∧ Nx w w' := by
  have HP := Lib.hid hP
  clear hP
  go_enter Tryd.func5, Tryd.ntmps5
  go_wp2_with fail
  refine (awakeh_any _ HP.out).mono ?_
  rintro e w1 ⟨rfl, hb1⟩
  go_wp2_with fail
  refine (rows_some _).mono ?_
  rintro e w2 ⟨g, rfl, hr2, hb2⟩
  have HR := Lib.hid hr2
  have HN := Lib.hid (hb1.trans hb2)
  clear hr2 hb1 hb2
  go_wp2
  go_loopw [6, 7] (fun f i wr => ∃ k : Nat, k ≤ 48 ∧ i = .int .i64 k ∧ f = .int .i64 (cnt x k) ∧ Nx w2 wr) (fun _ i _ => 48 - (intOf i).toNat)
  case atStart => exact ⟨0, by omega, rfl, rfl, Nx.refl _⟩
  case round =>
    obtain ⟨k, hk, rfl, rfl, hnx⟩ := hrel
    obtain ⟨k0, kc⟩ := cnt_le x hx hx' k hk
    by_cases hlt : k < 48
    · have k1 : cnt x k ≤ 1 := by omega
      have HS := Lib.hid (show cnt x (k + 1) = cnt x k + (if fitR x k = true then 1 else 0) from rfl)
      have hF : fitR x k = (bits BinOp.and IntKind.u32 x (rowK ((k : Int) + 1)) == rowM ((k : Int) + 1)) := rfl
      obtain ⟨_, _, m1, m2, m3⟩ := row_in_mask k hlt
      have hm3 : (bits BinOp.andNot IntKind.u32 (rowM ((k : Int) + 1)) (rowK ((k : Int) + 1)) != 0) = false := by rw [m3]; rfl
      clear kc m3
      generalize cnt x k = c at *
      go_wp2_with fail
      refine (rrow_any _ _ (by omega) (by omega)).mono ?_
      rintro e w3 ⟨rfl, hn3⟩
      obtain ⟨r0, r1, r2⟩ := HR.out.keep (hnx.trans hn3) k hlt
      have HN3 := Lib.hid (hnx.trans hn3)
      clear hnx hn3
      have q0 : ((k : Int) + 1 != (k : Int) + 1) = false := by simp
      generalize rowM ((k : Int) + 1) = M at *
      generalize rowK ((k : Int) + 1) = K at *
      have q1 : (M != M) = false := by simp
      have q2 : (K != K) = false := by simp
      cases h : fitR x k
      all_goals
        rw [h] at hF HS
        have hF' := hF.symm
        clear hF
        go_wp2
        go_roundw
        case rel => exact ⟨k + 1, by omega, by go_num, congrArg _ (by rw [HS.out]; simp), HN3.out⟩
        case measure => simp [intOf]; omega
    · have hk48 : k = 48 := by omega
      subst hk48
      have k1 : cnt x 48 ≤ 1 := by omega
      clear kc
      generalize cnt x 48 = c at *
      have HN2 := Lib.hid (HN.out.trans hnx)
      have HR2 := Lib.hid (HR.out.keep hnx)
      clear hnx HR
      obtain ⟨j, hj⟩ := Int.eq_ofNat_of_zero_le (show 0 ≤ n % 48 by omega)
      have hj48 : j < 48 := by omega
      have HJ := Lib.hid hj
      clear hj
      go_wp2
      rw [HJ.out]
      obtain ⟨r0, r1, r2⟩ := HR2.out j hj48
      have hgz : g < wr.heap.size := block_lt r0
      have q4 : (0 : Int) ≤ j := by omega
      have q5 : (j : Int) < 48 := by omega
      obtain ⟨x1, x2⟩ := backW_bd x j
      obtain ⟨g1, g2⟩ := backW_got x j hj48
      have hB : bits .or .u32 (rowM ((j : Int) + 1)) (bits .andNot .u32 x (rowK ((j : Int) + 1))) = backW x j := rfl
      have HG1 := Lib.hid g1
      have HG2 := Lib.hid g2
      clear g1 g2
      generalize rowM ((j : Int) + 1) = M at *
      generalize rowK ((j : Int) + 1) = K at *
      generalize backW x j = y at *
      go_region_held3 (fun w' => w'.cell? ⟨g, j * 3 + 1, none⟩ = some (.int .u32 M) ∧ w'.cell? ⟨g, j * 3 + 2, none⟩ = some (.int .u32 K) ∧ Nx wr w')
        (first | (with_reducible exact ⟨Nx.cell ((Nx.refl _).drew) r1, Nx.cell ((Nx.refl _).drew) r2, (Nx.refl _).drew⟩) | (with_reducible exact ⟨Nx.cell hn5 r1, Nx.cell hn5 r2, hn5⟩) | (with_reducible exact ⟨Nx.cell (hn5.alloc _) r1, Nx.cell (hn5.alloc _) r2, hn5.alloc _⟩) | (with_reducible exact ⟨Nx.cell (((Nx.refl _).drew).alloc _) r1, Nx.cell (((Nx.refl _).drew).alloc _) r2, ((Nx.refl _).drew).alloc _⟩) | (with_reducible exact ⟨Nx.cell (((Nx.refl _).alloc _).drew) r1, Nx.cell (((Nx.refl _).alloc _).drew) r2, ((Nx.refl _).alloc _).drew⟩) | (with_reducible exact five_kept hn5 hn5.size r1 r2))
        (first | (go_at_call 12; refine (get_ins y _ x1 x2 ?_).mono ?_; (exact HP.out.keep (HN2.out.trans (by with_reducible repeat (first | exact Nx.refl _ | refine Nx.drew ?_ | refine Nx.alloc ?_ _)))); rintro e w4 ⟨rfl, hn4⟩; have hn5 : Nx wr w4 := Nx.trans (by with_reducible repeat (first | exact Nx.refl _ | refine Nx.drew ?_ | refine Nx.alloc ?_ _)) hn4; (first | ((with_reducible refine five_then wr.heap.size rfl (((Nx.refl _).drew).trans hn4) ?_); rintro ⟨fc0, fc1, fc2, fc3, fc4, fz0, fz1, fz2, fz3, fz4, fzs⟩) | skip)))
      all_goals
        rw [HG1.out, HG2.out]
        have q6 : ((j : Int) + 1 == (j : Int) + 1) = true := by simp
        go_wp2
        go_ret
        refine ⟨rfl, ?_⟩
        refine HN2.out.trans ?_
        repeat (with_reducible first | exact hn5 | refine Nx.alloc ?_ _ | refine Nx.setCell ?_ (Nat.le_refl _) _)

end Go.Proofs.YtpaadeiopflfgaaDoor
