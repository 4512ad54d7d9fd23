/- Contracts of typecaseref10: a byte within quotes; numbers. -/
import Derived.Test.YtbkgdepblaibkaaDoorRtb
namespace Go.Proofs.YtbkgdepblaibkaaDoor
open Go.RowKit
set_option linter.unusedVariables false
set_option linter.unusedSimpArgs false

theorem u8n (x : UInt8) (n : Nat) (hn : n < 256) (b : Bool) (h : (x == UInt8.ofNat n) = b) : ((x.toNat : Int) == ((n : Nat) : Int)) = b := by rw [u8_lit x n hn, h]

set_option maxHeartbeats 1000000 in
theorem quoted_nil (q : UInt8) (w : World) : Calls Tryd.prog 89 #[.string (B []), .int .u8 q.toNat] w (RetBN (quoR q []) w) := by
  show Calls Tryd.prog 89 #[.string { data := #[] }, .int .u8 q.toNat] w (RetBN (0, 0) w)
  go_enter Tryd.func89, Tryd.ntmps89
  go_wp2
  go_ret2
  exact ⟨rfl, Nx.refl _⟩

set_option maxHeartbeats 2000000 in
theorem quoted_cons (q c : UInt8) (r : List UInt8) (w : World) (hl : r.length ≤ 999999) : Calls Tryd.prog 89 #[.string (B (c :: r)), .int .u8 q.toNat] w (RetBN (quoR q (c :: r)) w) := by
  obtain ⟨l, hL⟩ : ∃ l, l = c :: r := ⟨_, rfl⟩
  have hn : 1 ≤ l.length ∧ l.length ≤ 1000000 := by rw [hL]; simp; omega
  have E0 : l[0]? = some c := by rw [hL]; rfl
  have CE := Lib.hid (fun w => escape_any l w hn.2)
  have hv : quoR q (c :: r) = if c = q then (0, 0) else if c = 92 then escR l else if 32 ≤ c.toNat ∨ (c = 9 ∧ q = 34) then (c, 1) else (0, 0) := by rw [hL]; rfl
  rw [hv, ← hL]
  clear hv
  obtain ⟨p0, e0⟩ := byte_at l 0 c E0
  have n0 : (0 : Int) < l.length := by omega
  have nz : ((l.length : Int) == 0) = false := beq_eq_false_iff_ne.2 (by omega)
  clear E0 hL
  by_cases h1 : c = q
  · rw [if_pos h1]
    have b1 : ((c.toNat : Int) == (q.toNat : Int)) = true := by rw [byte_eq]; simpa using h1.symm
    clear h1
    go_enter Tryd.func89, Tryd.ntmps89
    go_wp2
    go_ret2
    exact ⟨rfl, Nx.refl _⟩
  · rw [if_neg h1]
    have b1 : ((c.toNat : Int) == (q.toNat : Int)) = false := by rw [byte_eq]; exact beq_eq_false_iff_ne.2 (fun h => h1 h.symm)
    by_cases h2 : c = 92
    · rw [if_pos h2]
      have b2 : ((c.toNat : Int) == 92) = true := u8n c 92 (by omega) true (by rw [h2]; rfl)
      clear h1 h2
      generalize escR l = V at *
      go_enter Tryd.func89, Tryd.ntmps89
      go_wp2_with (go_at_call 94; refine (CE.out _).mono ?_; rintro e w' ⟨rfl, hn9⟩; have HN := Lib.hid hn9; clear hn9)
      go_ret2
      exact ⟨rfl, HN.out⟩
    · rw [if_neg h2]
      have b2 : ((c.toNat : Int) == 92) = false := u8n c 92 (by omega) false (beq_eq_false_iff_ne.2 (fun h => h2 h))
      by_cases h3 : 32 ≤ c.toNat
      · rw [if_pos (Or.inl h3)]
        clear h1 h2 CE
        go_enter Tryd.func89, Tryd.ntmps89
        go_wp2
        go_ret2
        exact ⟨rfl, Nx.refl _⟩
      · have h3' : decide (32 ≤ c.toNat) = false := by simpa using h3
        by_cases h4 : c = 9
        · have b4 : ((c.toNat : Int) == 9) = true := u8n c 9 (by omega) true (by rw [h4]; rfl)
          by_cases h5 : q = 34
          · rw [if_pos (Or.inr ⟨h4, h5⟩)]
            have b5 : ((q.toNat : Int) == 34) = true := u8n q 34 (by omega) true (by rw [h5]; rfl)
            clear h1 h2 h4 h5 CE
            go_enter Tryd.func89, Tryd.ntmps89
            go_wp2
            go_ret2
            exact ⟨rfl, Nx.refl _⟩
          · rw [if_neg (fun h => h.elim h3 (fun h => h5 h.2))]
            have b5 : ((q.toNat : Int) == 34) = false := u8n q 34 (by omega) false (beq_eq_false_iff_ne.2 (fun h => h5 h))
            clear h1 h2 h4 h5 CE
            go_enter Tryd.func89, Tryd.ntmps89
            go_wp2
            go_ret2
            exact ⟨rfl, Nx.refl _⟩
        · rw [if_neg (fun h => h.elim h3 (fun h => h4 h.1))]
          have b4 : ((c.toNat : Int) == 9) = false := u8n c 9 (by omega) false (beq_eq_false_iff_ne.2 (fun h => h4 h))
          clear h1 h2 h4 CE
          go_enter Tryd.func89, Tryd.ntmps89
          go_wp2
          go_ret2
          exact ⟨rfl, Nx.refl _⟩

theorem quoted_any (q : UInt8) (l : List UInt8) (w : World) (hl : l.length ≤ 1000000) : Calls Tryd.prog 89 #[.string (B l), .int .u8 q.toNat] w (RetBN (quoR q l) w) := by
  cases l with
  | nil => exact quoted_nil q w
  | cons c r => exact quoted_cons q c r w (by simp at hl; omega)

end Go.Proofs.YtbkgdepblaibkaaDoor
