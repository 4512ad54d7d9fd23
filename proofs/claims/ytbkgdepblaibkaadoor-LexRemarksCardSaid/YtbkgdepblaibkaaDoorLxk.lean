/- Plain: what bytes written as escapes of base sixteen are. -/
import Derived.Test.YtbkgdepblaibkaaDoorLxj
namespace Go.Proofs.YtbkgdepblaibkaaDoor
open Go.RowKit
set_option linter.unusedVariables false
set_option linter.unusedSimpArgs false

def hexS : List UInt8 := [48, 49, 50, 51, 52, 53, 54, 55, 56, 57, 97, 98, 99, 100, 101, 102]

def hexE (c : UInt8) : List UInt8 := [92, 120, hexS.getD (c.toNat / 16) 0, hexS.getD (c.toNat % 16) 0]

theorem quo_hex (c : UInt8) (r : List UInt8) : quoR 34 (hexE c ++ r) = (c, 4) := by
  have h := byte_all (fun c => hexN.contains (hexS.getD (c.toNat / 16) 0) && (hexN.contains (hexS.getD (c.toNat % 16) 0) && (UInt8.ofNat (digV (hexS.getD (c.toNat / 16) 0) * 16 + digV (hexS.getD (c.toNat % 16) 0)) == c))) (by decide +kernel) c
  simp only [Bool.and_eq_true, beq_iff_eq] at h
  obtain ⟨h1, h2, h3⟩ := h
  show quoR 34 (92 :: 120 :: hexS.getD (c.toNat / 16) 0 :: hexS.getD (c.toNat % 16) 0 :: r) = _
  rw [quoR_cons, if_neg (by decide), if_pos rfl]
  show (if hexN.contains (hexS.getD (c.toNat / 16) 0) = true ∧ hexN.contains (hexS.getD (c.toNat % 16) 0) = true then (UInt8.ofNat (digV (hexS.getD (c.toNat / 16) 0) * 16 + digV (hexS.getD (c.toNat % 16) 0)), 4) else (0, 0) : UInt8 × Nat) = _
  rw [if_pos ⟨h1, h2⟩, h3]

theorem quo_shut (r : List UInt8) : (quoR 34 (34 :: r)).2 = 0 := by
  rw [quoR_cons, if_pos rfl]

def hexT (b : List UInt8) : List UInt8 := b.flatMap hexE

theorem hexT_len (b : List UInt8) : (hexT b).length = 4 * b.length := by
  induction b with
  | nil => rfl
  | cons c b ih => show (hexE c ++ hexT b).length = _; rw [List.length_append, ih]; simp [hexE]; omega

theorem txt_hex (b : List UInt8) (r : List UInt8) : txtT (hexT b ++ 34 :: r) = (b, 4 * b.length) := by
  induction b with
  | nil => exact txtT_stop _ (quo_shut r)
  | cons c b ih =>
    have e : hexT (c :: b) ++ 34 :: r = hexE c ++ (hexT b ++ 34 :: r) := by show (hexE c ++ hexT b) ++ _ = _; rw [List.append_assoc]
    rw [e, txtT_go _ (by rw [quo_hex]; simp), quo_hex]
    rw [show (hexE c ++ (hexT b ++ 34 :: r)).drop (c, 4).2 = hexT b ++ 34 :: r from rfl, ih]
    simp
    omega

theorem hex_nofeed (b : List UInt8) : ∀ c ∈ 34 :: (hexT b ++ [34]), c ≠ 10 := by
  intro c hc
  have k : ∀ d, ∀ x ∈ hexE d, x ≠ 10 := by
    intro d x hx
    have := byte_all (fun d => (hexE d).all fun x => x != 10) (by decide +kernel) d
    simpa using List.all_eq_true.1 this x hx
  rw [List.mem_cons, List.mem_append] at hc
  rcases hc with rfl | hc | hc
  · decide
  · obtain ⟨d, _, hd⟩ := List.mem_flatMap.1 hc
    exact k d c hd
  · simp at hc; rw [hc]; decide

theorem src_hex (b : List UInt8) (h : b.length ≤ 200) : srcR (34 :: (hexT b ++ [34])) = .ok [[⟨6, 1, 1, b, 0, 0⟩]] := by
  have hl : (34 :: (hexT b ++ [34])).length = 4 * b.length + 2 := by simp [hexT_len]
  have ht : tokR (34 :: (hexT b ++ [34])) = (tokN 6 b, 4 * b.length + 2, 4) := by
    have e : txtT ((34 :: (hexT b ++ [34])).drop 1) = (b, 4 * b.length) := txt_hex b []
    have hg : (34 :: (hexT b ++ [34])).getD (1 + 4 * b.length) 0 = 34 := by
      rw [List.getD_eq_getElem?_getD, show 1 + 4 * b.length = (hexT b).length + 1 by rw [hexT_len]; omega, List.getElem?_cons_succ, List.getElem?_append_right (Nat.le_refl _), Nat.sub_self]
      rfl
    have c1 : 1 + (txtT ((34 :: (hexT b ++ [34])).drop 1)).2 < (34 :: (hexT b ++ [34])).length ∧ (34 :: (hexT b ++ [34])).getD (1 + (txtT ((34 :: (hexT b ++ [34])).drop 1)).2) 0 = 34 := by
      rw [e]
      exact ⟨by rw [hl]; dsimp only; omega, hg⟩
    rw [tokR_34 _ rfl, textR_T, if_pos c1, e]
    dsimp only
    rw [show 1 + 4 * b.length + 1 = 4 * b.length + 2 by omega]
  unfold srcR
  rw [if_neg (by rw [hl]; omega), splitL_end _ (hex_nofeed b), linesR_cons, lineT_cons _ _ _ (by rw [hl]; omega)]
  rw [show (34 :: (hexT b ++ [34])).getD 0 0 = (34 : UInt8) from rfl, if_neg (by decide), if_neg (by decide), ht]
  rw [if_neg (by dsimp only; omega)]
  have hd : (34 :: (hexT b ++ [34])).drop (tokN 6 b, 4 * b.length + 2, (4 : Nat)).2.1 = [] := List.drop_eq_nil_of_le (by rw [hl]; exact Nat.le_refl _)
  rw [hd, lineT_nil]
  rfl

theorem hexT_snoc (b : List UInt8) (i : Nat) (x : UInt8) (hx : b[i]? = some x) : hexT (b.take (i + 1)) = hexT (b.take i) ++ hexE x := by
  unfold hexT
  rw [List.take_add_one, hx, List.flatMap_append]
  simp

end Go.Proofs.YtbkgdepblaibkaaDoor
