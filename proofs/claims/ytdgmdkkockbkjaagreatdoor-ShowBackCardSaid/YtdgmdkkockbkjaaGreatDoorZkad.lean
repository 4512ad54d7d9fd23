/- Parts of the proof, one behind the other. -/
import Derived.Test.YtdgmdkkockbkjaaGreatDoorQuiet
import Derived.Test.YtdgmdkkockbkjaaGreatDoorRow
import Derived.RegionTactic
import Derived.Test.YtdgmdkkockbkjaaGreatDoorHas
import Derived.IntWalk
import Derived.Test.YtdgmdkkockbkjaaGreatDoorZkab
import Derived.Test.YtdgmdkkockbkjaaGreatDoorZkac
/- Contracts of package typecaselaw10: Fault. -/
namespace Go.Proofs.YtdgmdkkockbkjaaGreatDoor
open Go.RowKit
set_option linter.unusedVariables false
set_option linter.unusedSimpArgs false

end Go.Proofs.YtdgmdkkockbkjaaGreatDoor

/- Contracts of package block, and of typecaseref13: a line's kind, its labels. -/
namespace Go.Proofs.YtdgmdkkockbkjaaGreatDoor
open Go.RowKit
set_option linter.unusedVariables false
set_option linter.unusedSimpArgs false

theorem TokAt.at_ {w : World} {g o : Nat} {l : List Tok} (h : TokAt w g o l) (k : Nat) (t : Tok) (hk : l[k]? = some t) :
    w.cell? ⟨g, o + k * 6, none⟩ = some (.int .i64 t.kind) ∧ w.cell? ⟨g, o + k * 6 + 1, none⟩ = some (.int .i64 t.line) ∧ w.cell? ⟨g, o + k * 6 + 2, none⟩ = some (.int .i64 t.col) ∧ w.cell? ⟨g, o + k * 6 + 3, none⟩ = some (.string (B t.text)) ∧ w.cell? ⟨g, o + k * 6 + 4, none⟩ = some (.int .u32 t.num) ∧ w.cell? ⟨g, o + k * 6 + 5, none⟩ = some (.int .i64 t.scope) :=
  ⟨h k t hk 0 _ rfl, h k t hk 1 _ rfl, h k t hk 2 _ rfl, h k t hk 3 _ rfl, h k t hk 4 _ rfl, h k t hk 5 _ rfl⟩

theorem TokAt.head {w : World} {g o : Nat} {t : Tok} {l : List Tok} (h : TokAt w g o (t :: l)) :
    w.cell? ⟨g, o, none⟩ = some (.int .i64 t.kind) ∧ w.cell? ⟨g, o + 1, none⟩ = some (.int .i64 t.line) ∧ w.cell? ⟨g, o + 2, none⟩ = some (.int .i64 t.col) ∧ w.cell? ⟨g, o + 3, none⟩ = some (.string (B t.text)) ∧ w.cell? ⟨g, o + 4, none⟩ = some (.int .u32 t.num) ∧ w.cell? ⟨g, o + 5, none⟩ = some (.int .i64 t.scope) := by
  have := h.at_ 0 t rfl
  simpa using this

theorem ret_i64' {a b : Int} (h : a = b) : Ending.returned (.int .i64 a) = .returned (.int .i64 b) := by rw [h]

end Go.Proofs.YtdgmdkkockbkjaaGreatDoor

/- Contracts of typecaseref10: bytes among some, digits, escapes. -/
namespace Go.Proofs.YtdgmdkkockbkjaaGreatDoor
open Go.RowKit
set_option linter.unusedVariables false
set_option linter.unusedSimpArgs false

theorem contains_drop (l : List UInt8) (c x : UInt8) (k : Nat) (h : l[k]? = some x) : (l.drop k).contains c = (c == x || (l.drop (k + 1)).contains c) := by
  obtain ⟨h1, e1⟩ := List.getElem?_eq_some_iff.1 h
  rw [List.drop_eq_getElem_cons h1, e1, List.contains_cons]

/-- A byte of a text, as the walk has it. -/
theorem byte_at (l : List UInt8) (k : Nat) (x : UInt8) (h : l[k]? = some x) : ∃ h2 : k < (B l).size, (B l)[k]'h2 = x := by
  obtain ⟨h1, e1⟩ := List.getElem?_eq_some_iff.1 h
  exact ⟨h1, e1⟩

theorem byte_eq (x c : UInt8) : ((x.toNat : Int) == (c.toNat : Int)) = (c == x) := by
  rw [Bool.eq_iff_iff]
  simp only [beq_iff_eq]
  constructor
  · intro h; exact (UInt8.toNat_inj.1 (by omega)).symm
  · intro h; rw [h]

set_option maxHeartbeats 1000000 in
theorem in_any (c : UInt8) (l : List UInt8) (w : World) (hl : l.length ≤ 1000000) :
    Calls Tryz.prog 36 #[.int .u8 c.toNat, .string (B l)] w fun e w' => e = .returned (.bool (l.contains c)) ∧ w = w' := by
  obtain ⟨V, hV⟩ : ∃ V, V = l.contains c := ⟨_, rfl⟩
  rw [← hV]
  have HV := Lib.hid hV
  clear hV
  go_enter Tryz.func36, Tryz.ntmps36
  go_wp2
  go_loop [5] (fun i => ∃ k : Nat, k ≤ l.length ∧ i = .int .i64 k ∧ Hid (V = (l.drop k).contains c)) (fun i => l.length - (intOf i).toNat)
  case atStart => exact ⟨0, Nat.zero_le _, rfl, Lib.hid (by rw [HV.out]; simp)⟩
  case round =>
    obtain ⟨k, hk, rfl, HL⟩ := hrel
    by_cases hlt : k < l.length
    · obtain ⟨x, hx⟩ : ∃ x, l[k]? = some x := ⟨_, List.getElem?_eq_getElem hlt⟩
      have hd := HL.out
      rw [contains_drop l c x k hx] at hd
      obtain ⟨h2, e2⟩ := byte_at l k x hx
      have hb := byte_eq ((B l)[k]'h2) c
      rw [e2] at hb
      cases hc : (c == x)
      · rw [hc] at hb hd
        rw [← e2] at hb
        have HD := Lib.hid (show V = (l.drop (k + 1)).contains c by rw [hd]; rfl)
        clear hd HL hx hc e2
        go_wp2
        go_round
        case rel => exact ⟨k + 1, by omega, by go_num, HD⟩
        case measure => simp [intOf]; omega
      · rw [hc] at hb hd
        rw [← e2] at hb
        have HD := Lib.hid (show V = true by rw [hd]; rfl)
        clear hd HL hx hc e2
        go_wp2
        go_ret
        exact ⟨ret_bool HD.out.symm, rfl⟩
    · have hd := HL.out
      rw [List.drop_eq_nil_of_le (by omega)] at hd
      have HD := Lib.hid (show V = false from hd)
      clear hd HL
      go_wp2
      go_ret
      exact ⟨ret_bool HD.out.symm, rfl⟩

theorem while_drop (l set : List UInt8) (x : UInt8) (k : Nat) (h : l[k]? = some x) : whileN set (l.drop k) = if set.contains x = true then 1 + whileN set (l.drop (k + 1)) else 0 := by
  obtain ⟨h1, e1⟩ := List.getElem?_eq_some_iff.1 h
  rw [List.drop_eq_getElem_cons h1, e1, whileN]

set_option maxHeartbeats 1000000 in
theorem while_any (l set : List UInt8) (w : World) (hl : l.length ≤ 1000000) (hs : set.length ≤ 1000000) :
    Calls Tryz.prog 57 #[.string (B l), .string (B set)] w fun e w' => e = .returned (.int .i64 (whileN set l : Nat)) ∧ w = w' := by
  obtain ⟨V, hV⟩ : ∃ V, V = whileN set l := ⟨_, rfl⟩
  rw [← hV]
  have HV := Lib.hid hV
  clear hV
  go_enter Tryz.func57, Tryz.ntmps57
  go_wp2
  go_loop [5] (fun i => ∃ k : Nat, k ≤ l.length ∧ i = .int .i64 k ∧ Hid (V = k + whileN set (l.drop k))) (fun i => l.length - (intOf i).toNat)
  case atStart => exact ⟨0, Nat.zero_le _, rfl, Lib.hid (by rw [HV.out]; simp)⟩
  case round =>
    obtain ⟨k, hk, rfl, HL⟩ := hrel
    by_cases hlt : k < l.length
    · obtain ⟨x, hx⟩ : ∃ x, l[k]? = some x := ⟨_, List.getElem?_eq_getElem hlt⟩
      have hd := HL.out
      rw [while_drop l set x k hx] at hd
      obtain ⟨h2, e2⟩ := byte_at l k x hx
      have C1 := in_any ((B l)[k]'h2) set w hs
      rw [e2] at C1
      cases hc : set.contains x
      · rw [hc] at C1
        rw [hc, if_neg (by simp)] at hd
        rw [← e2] at C1
        have C1 := Lib.hid C1
        have HD := Lib.hid (show V = k from hd)
        clear hd HL hx hc e2
        go_wp2_with (go_at_call 36; refine C1.out.mono ?_; rintro e w' ⟨rfl, rfl⟩)
        go_ret
        exact ⟨ret_i64' (by rw [HD.out]), rfl⟩
      · rw [hc] at C1
        rw [hc, if_pos rfl] at hd
        rw [← e2] at C1
        have C1 := Lib.hid C1
        have HD := Lib.hid (show V = k + 1 + whileN set (l.drop (k + 1)) by omega)
        clear hd HL hx hc e2
        go_wp2_with (go_at_call 36; refine C1.out.mono ?_; rintro e w' ⟨rfl, rfl⟩)
        go_round
        case rel => exact ⟨k + 1, by omega, by go_num, HD⟩
        case measure => simp [intOf]; omega
    · have hd := HL.out
      rw [List.drop_eq_nil_of_le (by omega)] at hd
      have HD := Lib.hid (show V = k from hd)
      clear hd HL
      go_wp2
      go_ret
      exact ⟨ret_i64' (by rw [HD.out]), rfl⟩

theorem ret_u64 {a b : Int} (h : a = b) : Ending.returned (.int .u64 a) = .returned (.int .u64 b) := by rw [h]

theorem digit_any (c : UInt8) (w : World) : Calls Tryz.prog 83 #[.int .u8 c.toNat] w fun e w' => e = .returned (.int .u64 (digV c : Nat)) ∧ w = w' := by
  have hc := c.toNat_lt
  have HV := Lib.hid (show digV c = if 97 ≤ c.toNat then c.toNat - 97 + 10 else if 65 ≤ c.toNat then c.toNat - 65 + 10 else (c.toNat + 208) % 256 from rfl)
  generalize digV c = V at *
  generalize c.toNat = n at *
  by_cases h1 : 97 ≤ n
  · have HD := Lib.hid (HV.out.trans (if_pos h1))
    go_enter Tryz.func83, Tryz.ntmps83
    go_wp2
    go_ret
    exact ⟨ret_u64 (by rw [HD.out]; omega), rfl⟩
  · by_cases h2 : 65 ≤ n
    · have HD := Lib.hid ((HV.out.trans (if_neg h1)).trans (if_pos h2))
      go_enter Tryz.func83, Tryz.ntmps83
      go_wp2
      go_ret
      exact ⟨ret_u64 (by rw [HD.out]; omega), rfl⟩
    · have HD := Lib.hid ((HV.out.trans (if_neg h1)).trans (if_neg h2))
      go_enter Tryz.func83, Tryz.ntmps83
      go_wp2
      go_ret
      exact ⟨ret_u64 (by rw [HD.out]; first | omega | (simp [IntKind.wrap]; omega)), rfl⟩

end Go.Proofs.YtdgmdkkockbkjaaGreatDoor

/- Contracts of typecaseref10: escapes, bytes within quotes. -/
namespace Go.Proofs.YtdgmdkkockbkjaaGreatDoor
open Go.RowKit
set_option linter.unusedVariables false
set_option linter.unusedSimpArgs false

def RetBN (r : UInt8 × Nat) (w : World) (e : Ending) (w' : World) : Prop := e = .returned (.tuple #[.int .u8 r.1.toNat, .int .i64 (r.2 : Nat)]) ∧ Nx w w'

def escN : List UInt8 := [110, 116, 114, 48, 92, 39, 34]

def escV : List UInt8 := [10, 9, 13, 0, 92, 39, 34]

theorem esc_at : ∀ k, k < 7 → escTab (escN.getD k 0) = some (escV.getD k 0) := by decide

theorem esc_no (c : UInt8) (h : ∀ k, k < 7 → ¬ c = escN.getD k 0) : escTab c = none := by
  have h0 := h 0 (by omega)
  have h1 := h 1 (by omega)
  have h2 := h 2 (by omega)
  have h3 := h 3 (by omega)
  have h4 := h 4 (by omega)
  have h5 := h 5 (by omega)
  have h6 := h 6 (by omega)
  simp [escN] at h0 h1 h2 h3 h4 h5 h6
  unfold escTab
  simp [h0, h1, h2, h3, h4, h5, h6]

theorem esc_get (l : List UInt8) (k : Nat) (h : k < l.length) : l[k]? = some (l.getD k 0) := by
  rw [List.getElem?_eq_getElem h, List.getD_eq_getElem?_getD, List.getElem?_eq_getElem h]; rfl

theorem u8_ne (x c : UInt8) (b : Bool) (h : (c == x) = b) : ((x.toNat : Int) == (c.toNat : Int)) = b := by rw [byte_eq, h]

theorem escR_ne (a : UInt8) (r : List UInt8) (h : ¬ a = 92) : escR (a :: r) = (0, 0) := by
  unfold escR
  split
  · rename_i hh; cases hh; exact absurd rfl h
  · rfl

set_option maxHeartbeats 1000000 in
theorem escape_short (l : List UInt8) (w : World) (h : l.length < 2) : Calls Tryz.prog 84 #[.string (B l)] w (RetBN (escR l) w) := by
  have HV := Lib.hid (show escR l = (0, 0) by
    match l, h with
    | [], _ => rfl
    | [a], _ => unfold escR; split <;> first | rfl | (rename_i hh; cases hh))
  generalize escR l = V at *
  have hv := HV.out
  subst hv
  clear HV
  go_enter Tryz.func84, Tryz.ntmps84
  go_wp2
  go_ret2
  exact ⟨rfl, Nx.refl _⟩

set_option maxHeartbeats 1000000 in
theorem escape_not (a : UInt8) (r : List UInt8) (w : World) (h : 1 ≤ r.length) (hl : r.length ≤ 1000000) (ha : ¬ a = 92) : Calls Tryz.prog 84 #[.string (B (a :: r))] w (RetBN (escR (a :: r)) w) := by
  rw [escR_ne a r ha]
  obtain ⟨h2, e2⟩ := byte_at (a :: r) 0 a rfl
  have hb : ((((B (a :: r))[0]'h2).toNat : Int) != 92) = true := by
    rw [e2]
    simp
    intro h
    apply ha
    apply UInt8.toNat_inj.1
    simpa using (by omega : a.toNat = 92)
  obtain ⟨n, hn⟩ : ∃ n, n = (a :: r).length := ⟨_, rfl⟩
  have hn2 : 2 ≤ n := by rw [hn]; simp; omega
  have hnI : ¬ (n : Int) < 2 := by omega
  have hn1 : (0 : Int) < n := by omega
  generalize a :: r = l at *
  clear e2
  go_enter Tryz.func84, Tryz.ntmps84
  rw [hn] at hn2 hnI hn1
  go_wp2
  go_ret2
  exact ⟨rfl, Nx.refl _⟩

/-! cases -/
theorem esc_none (c : UInt8) (h : escTab c = none) (k : Nat) (hk : k < 7) : ¬ c = escN.getD k 0 := by
  intro e
  rw [e, esc_at k hk] at h
  cases h

theorem hex_le (c : UInt8) (h : hexN.contains c = true) : digV c ≤ 15 := by
  have := byte_all (fun c => !hexN.contains c || decide (digV c ≤ 15)) (by decide +kernel) c
  rw [h] at this
  simpa using this

theorem ret2_u8n {a b c : Int} (h : a = b) : Ending.returned (.tuple #[.int .u8 a, .int .i64 c]) = .returned (.tuple #[.int .u8 b, .int .i64 c]) := by rw [h]

theorem u8_lit (c : UInt8) (n : Nat) (hn : n < 256) : ((c.toNat : Int) == (n : Int)) = (c == UInt8.ofNat n) := by
  have e : (UInt8.ofNat n).toNat = n := by simp; omega
  have := byte_eq c (UInt8.ofNat n)
  rw [e] at this
  rw [this, Bool.eq_iff_iff]
  simp only [beq_iff_eq]
  exact ⟨Eq.symm, Eq.symm⟩

set_option maxHeartbeats 2000000 in
theorem escape_nox (c : UInt8) (r : List UInt8) (w : World) (hl : r.length ≤ 1000000) (hc : escTab c = none) (hx : ¬ c = 120) : Calls Tryz.prog 84 #[.string (B (92 :: c :: r))] w (RetBN (escR (92 :: c :: r)) w) := by
  obtain ⟨l, hL⟩ : ∃ l, l = 92 :: c :: r := ⟨_, rfl⟩
  have E0 : l[0]? = some 92 := by rw [hL]; rfl
  have E1 : l[1]? = some c := by rw [hL]; rfl
  have hn : 2 ≤ l.length ∧ l.length ≤ 1000010 := by rw [hL]; simp; omega
  have HNO := Lib.hid (esc_none c hc)
  have hv : escR (92 :: c :: r) = (0, 0) := by unfold escR; simp only [hc, if_neg hx]
  rw [hv]
  clear hv
  rw [← hL]
  obtain ⟨p0, e0⟩ := byte_at l 0 92 E0
  obtain ⟨p1, e1⟩ := byte_at l 1 c E1
  have b0 : ((((B l)[0]'p0).toNat : Int) != 92) = false := by rw [e0]; rfl
  have nI : ¬ (l.length : Int) < 2 := by omega
  have n1 : (1 : Int) < l.length := by omega
  have n0 : (0 : Int) < l.length := by omega
  have bx : ((c.toNat : Int) == 120) = false := by rw [show (120 : Int) = ((120 : Nat) : Int) by rfl, u8_lit c 120 (by omega)]; simpa using hx
  clear E0 E1 e0 hL hc
  go_enter Tryz.func84, Tryz.ntmps84
  go_wp2
  go_loopw [6] (fun i wr => ∃ k : Nat, k ≤ 7 ∧ i = .int .i64 k ∧ Nx w wr) (fun i _ => 7 - (intOf i).toNat)
  case atStart => exact ⟨0, by omega, rfl, Nx.refl _⟩
  case round =>
    obtain ⟨k, hk, rfl, hn⟩ := hrel
    have HN := Lib.hid hn
    clear hn
    by_cases hlt : k < 7
    · obtain ⟨q2, f2⟩ := byte_at escN k _ (esc_get escN k hlt)
      have hb : (((c.toNat : Nat) : Int) == (((({ data := #[110, 116, 114, 48, 92, 39, 34] } : ByteArray)[k]'q2).toNat : Nat) : Int)) = false := by
        show ((c.toNat : Int) == (((B escN)[k]'q2).toNat : Int)) = false
        rw [byte_eq, f2]
        exact beq_eq_false_iff_ne.2 (fun h => HNO.out k hlt h.symm)
      have k0 : 0 ≤ (k : Int) := by omega
      have k7 : (k : Int) < 7 := by omega
      clear f2
      go_wp2
      go_quiet (fail)
      go_wp2
      go_roundw
      case rel => exact ⟨k + 1, by omega, by go_num, HN.out.drewN _⟩
      case measure => simp [intOf]; omega
    · go_wp2_with (first | fail)
      go_ret2
      exact ⟨rfl, HN.out⟩

set_option maxHeartbeats 2000000 in
theorem escape_xsh (c : UInt8) (r : List UInt8) (w : World) (hl : r.length ≤ 1000000) (hc : escTab c = none) (hx : c = 120) (hr : r.length ≤ 1) : Calls Tryz.prog 84 #[.string (B (92 :: c :: r))] w (RetBN (escR (92 :: c :: r)) w) := by
  obtain ⟨l, hL⟩ : ∃ l, l = 92 :: c :: r := ⟨_, rfl⟩
  have E0 : l[0]? = some 92 := by rw [hL]; rfl
  have E1 : l[1]? = some c := by rw [hL]; rfl
  have hn : 2 ≤ l.length ∧ l.length ≤ 1000010 := by rw [hL]; simp; omega
  have HNO := Lib.hid (esc_none c hc)
  have hv : escR (92 :: c :: r) = (0, 0) := by
    unfold escR
    simp only [hc, if_pos hx]
    match r, hr with
    | [], _ => rfl
    | [a], _ => rfl
  rw [hv]
  clear hv
  have hn3 : l.length ≤ 3 := by rw [hL]; simp; omega
  rw [← hL]
  obtain ⟨p0, e0⟩ := byte_at l 0 92 E0
  obtain ⟨p1, e1⟩ := byte_at l 1 c E1
  have b0 : ((((B l)[0]'p0).toNat : Int) != 92) = false := by rw [e0]; rfl
  have nI : ¬ (l.length : Int) < 2 := by omega
  have n1 : (1 : Int) < l.length := by omega
  have n0 : (0 : Int) < l.length := by omega
  have bx : ((c.toNat : Int) == 120) = true := by rw [show (120 : Int) = ((120 : Nat) : Int) by rfl, u8_lit c 120 (by omega), hx]; rfl
  have n3 : ¬ (3 : Int) < l.length := by omega
  clear E0 E1 e0 hL hc
  go_enter Tryz.func84, Tryz.ntmps84
  go_wp2
  go_loopw [6] (fun i wr => ∃ k : Nat, k ≤ 7 ∧ i = .int .i64 k ∧ Nx w wr) (fun i _ => 7 - (intOf i).toNat)
  case atStart => exact ⟨0, by omega, rfl, Nx.refl _⟩
  case round =>
    obtain ⟨k, hk, rfl, hn⟩ := hrel
    have HN := Lib.hid hn
    clear hn
    by_cases hlt : k < 7
    · obtain ⟨q2, f2⟩ := byte_at escN k _ (esc_get escN k hlt)
      have hb : (((c.toNat : Nat) : Int) == (((({ data := #[110, 116, 114, 48, 92, 39, 34] } : ByteArray)[k]'q2).toNat : Nat) : Int)) = false := by
        show ((c.toNat : Int) == (((B escN)[k]'q2).toNat : Int)) = false
        rw [byte_eq, f2]
        exact beq_eq_false_iff_ne.2 (fun h => HNO.out k hlt h.symm)
      have k0 : 0 ≤ (k : Int) := by omega
      have k7 : (k : Int) < 7 := by omega
      clear f2
      go_wp2
      go_quiet (fail)
      go_wp2
      go_roundw
      case rel => exact ⟨k + 1, by omega, by go_num, HN.out.drewN _⟩
      case measure => simp [intOf]; omega
    · go_wp2_with (first | fail)
      go_ret2
      exact ⟨rfl, HN.out⟩

set_option maxHeartbeats 2000000 in
theorem escape_xa (c a b : UInt8) (r : List UInt8) (w : World) (hl : r.length ≤ 1000000) (hc : escTab c = none) (hx : c = 120) (ha : hexN.contains a = false) : Calls Tryz.prog 84 #[.string (B (92 :: c :: a :: b :: r))] w (RetBN (escR (92 :: c :: a :: b :: r)) w) := by
  obtain ⟨l, hL⟩ : ∃ l, l = 92 :: c :: a :: b :: r := ⟨_, rfl⟩
  have E0 : l[0]? = some 92 := by rw [hL]; rfl
  have E1 : l[1]? = some c := by rw [hL]; rfl
  have hn : 2 ≤ l.length ∧ l.length ≤ 1000010 := by rw [hL]; simp; omega
  have HNO := Lib.hid (esc_none c hc)
  have hv : escR (92 :: c :: a :: b :: r) = (0, 0) := by unfold escR; simp only [hc, if_pos hx]; exact if_neg (show ¬ (hexN.contains a = true ∧ hexN.contains b = true) by rw [ha]; simp)
  rw [hv]
  clear hv
  have E2 : l[2]? = some a := by rw [hL]; rfl
  have E3 : l[3]? = some b := by rw [hL]; rfl
  have hn4 : 4 ≤ l.length := by rw [hL]; simp
  rw [← hL]
  obtain ⟨p0, e0⟩ := byte_at l 0 92 E0
  obtain ⟨p1, e1⟩ := byte_at l 1 c E1
  have b0 : ((((B l)[0]'p0).toNat : Int) != 92) = false := by rw [e0]; rfl
  have nI : ¬ (l.length : Int) < 2 := by omega
  have n1 : (1 : Int) < l.length := by omega
  have n0 : (0 : Int) < l.length := by omega
  have bx : ((c.toNat : Int) == 120) = true := by rw [show (120 : Int) = ((120 : Nat) : Int) by rfl, u8_lit c 120 (by omega), hx]; rfl
  obtain ⟨p2, e2⟩ := byte_at l 2 a E2
  obtain ⟨p3, e3⟩ := byte_at l 3 b E3
  have n3 : (3 : Int) < l.length := by omega
  have n2 : (2 : Int) < l.length := by omega
  have I2 : ∀ w, Calls Tryz.prog 36 #[.int .u8 a.toNat, .string { data := #[48, 49, 50, 51, 52, 53, 54, 55, 56, 57, 97, 98, 99, 100, 101, 102, 65, 66, 67, 68, 69, 70] }] w fun e w' => e = .returned (.bool (hexN.contains a)) ∧ w = w' := fun w => in_any a hexN w (by decide)
  rw [ha] at I2
  have I2 := Lib.hid I2
  clear E2 E3
  clear E0 E1 e0 hL hc
  go_enter Tryz.func84, Tryz.ntmps84
  go_wp2
  go_loopw [6] (fun i wr => ∃ k : Nat, k ≤ 7 ∧ i = .int .i64 k ∧ Nx w wr) (fun i _ => 7 - (intOf i).toNat)
  case atStart => exact ⟨0, by omega, rfl, Nx.refl _⟩
  case round =>
    obtain ⟨k, hk, rfl, hn⟩ := hrel
    have HN := Lib.hid hn
    clear hn
    by_cases hlt : k < 7
    · obtain ⟨q2, f2⟩ := byte_at escN k _ (esc_get escN k hlt)
      have hb : (((c.toNat : Nat) : Int) == (((({ data := #[110, 116, 114, 48, 92, 39, 34] } : ByteArray)[k]'q2).toNat : Nat) : Int)) = false := by
        show ((c.toNat : Int) == (((B escN)[k]'q2).toNat : Int)) = false
        rw [byte_eq, f2]
        exact beq_eq_false_iff_ne.2 (fun h => HNO.out k hlt h.symm)
      have k0 : 0 ≤ (k : Int) := by omega
      have k7 : (k : Int) < 7 := by omega
      clear f2
      go_wp2
      go_quiet (fail)
      go_wp2
      go_roundw
      case rel => exact ⟨k + 1, by omega, by go_num, HN.out.drewN _⟩
      case measure => simp [intOf]; omega
    · go_wp2_with (first | (go_at_call 36; (with_reducible refine (I2.out _).mono ?_); rintro e w2 ⟨rfl, rfl⟩))
      go_ret2
      exact ⟨rfl, HN.out⟩

set_option maxHeartbeats 2000000 in
theorem escape_xb (c a b : UInt8) (r : List UInt8) (w : World) (hl : r.length ≤ 1000000) (hc : escTab c = none) (hx : c = 120) (ha : hexN.contains a = true) (hb : hexN.contains b = false) : Calls Tryz.prog 84 #[.string (B (92 :: c :: a :: b :: r))] w (RetBN (escR (92 :: c :: a :: b :: r)) w) := by
  obtain ⟨l, hL⟩ : ∃ l, l = 92 :: c :: a :: b :: r := ⟨_, rfl⟩
  have E0 : l[0]? = some 92 := by rw [hL]; rfl
  have E1 : l[1]? = some c := by rw [hL]; rfl
  have hn : 2 ≤ l.length ∧ l.length ≤ 1000010 := by rw [hL]; simp; omega
  have HNO := Lib.hid (esc_none c hc)
  have hv : escR (92 :: c :: a :: b :: r) = (0, 0) := by unfold escR; simp only [hc, if_pos hx]; exact if_neg (show ¬ (hexN.contains a = true ∧ hexN.contains b = true) by rw [hb]; simp)
  rw [hv]
  clear hv
  have E2 : l[2]? = some a := by rw [hL]; rfl
  have E3 : l[3]? = some b := by rw [hL]; rfl
  have hn4 : 4 ≤ l.length := by rw [hL]; simp
  rw [← hL]
  obtain ⟨p0, e0⟩ := byte_at l 0 92 E0
  obtain ⟨p1, e1⟩ := byte_at l 1 c E1
  have b0 : ((((B l)[0]'p0).toNat : Int) != 92) = false := by rw [e0]; rfl
  have nI : ¬ (l.length : Int) < 2 := by omega
  have n1 : (1 : Int) < l.length := by omega
  have n0 : (0 : Int) < l.length := by omega
  have bx : ((c.toNat : Int) == 120) = true := by rw [show (120 : Int) = ((120 : Nat) : Int) by rfl, u8_lit c 120 (by omega), hx]; rfl
  obtain ⟨p2, e2⟩ := byte_at l 2 a E2
  obtain ⟨p3, e3⟩ := byte_at l 3 b E3
  have n3 : (3 : Int) < l.length := by omega
  have n2 : (2 : Int) < l.length := by omega
  have I2 : ∀ w, Calls Tryz.prog 36 #[.int .u8 a.toNat, .string { data := #[48, 49, 50, 51, 52, 53, 54, 55, 56, 57, 97, 98, 99, 100, 101, 102, 65, 66, 67, 68, 69, 70] }] w fun e w' => e = .returned (.bool (hexN.contains a)) ∧ w = w' := fun w => in_any a hexN w (by decide)
  rw [ha] at I2
  have I2 := Lib.hid I2
  have I3 : ∀ w, Calls Tryz.prog 36 #[.int .u8 b.toNat, .string { data := #[48, 49, 50, 51, 52, 53, 54, 55, 56, 57, 97, 98, 99, 100, 101, 102, 65, 66, 67, 68, 69, 70] }] w fun e w' => e = .returned (.bool (hexN.contains b)) ∧ w = w' := fun w => in_any b hexN w (by decide)
  rw [hb] at I3
  have I3 := Lib.hid I3
  clear E2 E3
  clear E0 E1 e0 hL hc
  go_enter Tryz.func84, Tryz.ntmps84
  go_wp2
  go_loopw [6] (fun i wr => ∃ k : Nat, k ≤ 7 ∧ i = .int .i64 k ∧ Nx w wr) (fun i _ => 7 - (intOf i).toNat)
  case atStart => exact ⟨0, by omega, rfl, Nx.refl _⟩
  case round =>
    obtain ⟨k, hk, rfl, hn⟩ := hrel
    have HN := Lib.hid hn
    clear hn
    by_cases hlt : k < 7
    · obtain ⟨q2, f2⟩ := byte_at escN k _ (esc_get escN k hlt)
      have hb : (((c.toNat : Nat) : Int) == (((({ data := #[110, 116, 114, 48, 92, 39, 34] } : ByteArray)[k]'q2).toNat : Nat) : Int)) = false := by
        show ((c.toNat : Int) == (((B escN)[k]'q2).toNat : Int)) = false
        rw [byte_eq, f2]
        exact beq_eq_false_iff_ne.2 (fun h => HNO.out k hlt h.symm)
      have k0 : 0 ≤ (k : Int) := by omega
      have k7 : (k : Int) < 7 := by omega
      clear f2
      go_wp2
      go_quiet (fail)
      go_wp2
      go_roundw
      case rel => exact ⟨k + 1, by omega, by go_num, HN.out.drewN _⟩
      case measure => simp [intOf]; omega
    · go_wp2_with (first | (go_at_call 36; (with_reducible refine (I2.out _).mono ?_); rintro e w2 ⟨rfl, rfl⟩) | (go_at_call 36; (with_reducible refine (I3.out _).mono ?_); rintro e w2 ⟨rfl, rfl⟩))
      go_ret2
      exact ⟨rfl, HN.out⟩

set_option maxHeartbeats 2000000 in
theorem escape_xx (c a b : UInt8) (r : List UInt8) (w : World) (hl : r.length ≤ 1000000) (hc : escTab c = none) (hx : c = 120) (ha : hexN.contains a = true) (hb : hexN.contains b = true) : Calls Tryz.prog 84 #[.string (B (92 :: c :: a :: b :: r))] w (RetBN (escR (92 :: c :: a :: b :: r)) w) := by
  obtain ⟨l, hL⟩ : ∃ l, l = 92 :: c :: a :: b :: r := ⟨_, rfl⟩
  have E0 : l[0]? = some 92 := by rw [hL]; rfl
  have E1 : l[1]? = some c := by rw [hL]; rfl
  have hn : 2 ≤ l.length ∧ l.length ≤ 1000010 := by rw [hL]; simp; omega
  have HNO := Lib.hid (esc_none c hc)
  have hv : escR (92 :: c :: a :: b :: r) = (UInt8.ofNat (digV a * 16 + digV b), 4) := by unfold escR; simp only [hc, if_pos hx]; exact if_pos (show hexN.contains a = true ∧ hexN.contains b = true from ⟨ha, hb⟩)
  rw [hv]
  clear hv
  have E2 : l[2]? = some a := by rw [hL]; rfl
  have E3 : l[3]? = some b := by rw [hL]; rfl
  have hn4 : 4 ≤ l.length := by rw [hL]; simp
  rw [← hL]
  obtain ⟨p0, e0⟩ := byte_at l 0 92 E0
  obtain ⟨p1, e1⟩ := byte_at l 1 c E1
  have b0 : ((((B l)[0]'p0).toNat : Int) != 92) = false := by rw [e0]; rfl
  have nI : ¬ (l.length : Int) < 2 := by omega
  have n1 : (1 : Int) < l.length := by omega
  have n0 : (0 : Int) < l.length := by omega
  have bx : ((c.toNat : Int) == 120) = true := by rw [show (120 : Int) = ((120 : Nat) : Int) by rfl, u8_lit c 120 (by omega), hx]; rfl
  obtain ⟨p2, e2⟩ := byte_at l 2 a E2
  obtain ⟨p3, e3⟩ := byte_at l 3 b E3
  have n3 : (3 : Int) < l.length := by omega
  have n2 : (2 : Int) < l.length := by omega
  have I2 : ∀ w, Calls Tryz.prog 36 #[.int .u8 a.toNat, .string { data := #[48, 49, 50, 51, 52, 53, 54, 55, 56, 57, 97, 98, 99, 100, 101, 102, 65, 66, 67, 68, 69, 70] }] w fun e w' => e = .returned (.bool (hexN.contains a)) ∧ w = w' := fun w => in_any a hexN w (by decide)
  rw [ha] at I2
  have I2 := Lib.hid I2
  have I3 : ∀ w, Calls Tryz.prog 36 #[.int .u8 b.toNat, .string { data := #[48, 49, 50, 51, 52, 53, 54, 55, 56, 57, 97, 98, 99, 100, 101, 102, 65, 66, 67, 68, 69, 70] }] w fun e w' => e = .returned (.bool (hexN.contains b)) ∧ w = w' := fun w => in_any b hexN w (by decide)
  rw [hb] at I3
  have I3 := Lib.hid I3
  clear E2 E3
  have D2 := Lib.hid (fun w => digit_any a w)
  have D3 := Lib.hid (fun w => digit_any b w)
  have d2 := hex_le a ha
  have d3 := hex_le b hb
  have HR := Lib.hid (show ((UInt8.ofNat (digV a * 16 + digV b)).toNat : Int) = (digV a : Int) * 16 + digV b by simp; omega)
  generalize UInt8.ofNat (digV a * 16 + digV b) = R at *
  generalize digV a = da at *
  generalize digV b = db at *
  have w1 : IntKind.u64.wrap ((da : Int) * 16) = (da : Int) * 16 := by rw [IntKind.wrap_u64]; omega
  have w2 : IntKind.u64.wrap ((da : Int) * 16 + db) = (da : Int) * 16 + db := by rw [IntKind.wrap_u64]; omega
  have w3 : IntKind.u8.wrap ((da : Int) * 16 + db) = (da : Int) * 16 + db := by rw [IntKind.wrap_u8]; omega
  clear E0 E1 e0 hL hc
  go_enter Tryz.func84, Tryz.ntmps84
  go_wp2
  go_loopw [6] (fun i wr => ∃ k : Nat, k ≤ 7 ∧ i = .int .i64 k ∧ Nx w wr) (fun i _ => 7 - (intOf i).toNat)
  case atStart => exact ⟨0, by omega, rfl, Nx.refl _⟩
  case round =>
    obtain ⟨k, hk, rfl, hn⟩ := hrel
    have HN := Lib.hid hn
    clear hn
    by_cases hlt : k < 7
    · obtain ⟨q2, f2⟩ := byte_at escN k _ (esc_get escN k hlt)
      have hb : (((c.toNat : Nat) : Int) == (((({ data := #[110, 116, 114, 48, 92, 39, 34] } : ByteArray)[k]'q2).toNat : Nat) : Int)) = false := by
        show ((c.toNat : Int) == (((B escN)[k]'q2).toNat : Int)) = false
        rw [byte_eq, f2]
        exact beq_eq_false_iff_ne.2 (fun h => HNO.out k hlt h.symm)
      have k0 : 0 ≤ (k : Int) := by omega
      have k7 : (k : Int) < 7 := by omega
      clear f2
      go_wp2
      go_quiet (fail)
      go_wp2
      go_roundw
      case rel => exact ⟨k + 1, by omega, by go_num, HN.out.drewN _⟩
      case measure => simp [intOf]; omega
    · go_wp2_with (first | (go_at_call 36; (with_reducible refine (I2.out _).mono ?_); rintro e w2 ⟨rfl, rfl⟩) | (go_at_call 36; (with_reducible refine (I3.out _).mono ?_); rintro e w2 ⟨rfl, rfl⟩))
      (refine wp_region_nx 9 (by kernel_rfl) (by kernel_rfl) ?_; simp only [List.take_succ_cons, List.take_zero, List.drop_succ_cons, List.drop_zero]; (repeat (refine wpQuiet_step (fun K hK => ?_); go_simp; first | (refine hK _ ?_; clear hK K) | (apply Exists.intro; refine ⟨fun w' hw' => ?_, hK _ ?_⟩; (first | (with_reducible rfl) | (go_at_call 83; with_reducible exact (D2.out _).mono fun _ _ h => ⟨h.1, hw'.trans (Nx.of_eq h.2)⟩) | (go_at_call 83; with_reducible exact (D3.out _).mono fun _ _ h => ⟨h.1, hw'.trans (Nx.of_eq h.2)⟩) | (obtain ⟨hc, hf⟩ := nx_cells hw'; go_simp; with_reducible rfl) | (obtain ⟨hc, hf⟩ := nx_cells hw'; go_simp; rfl)); clear hK K))); refine wpQuiet_nil ?_; intro w3 hn3)
      have HN3 := Lib.hid (HN.out.trans hn3)
      clear hn3
      go_wp2
      go_ret2
      exact ⟨ret2_u8n (by rw [HR.out]), HN3.out⟩

set_option maxHeartbeats 2000000 in
theorem escape_tab (c b : UInt8) (r : List UInt8) (w : World) (hl : r.length ≤ 1000000) (hc : escTab c = some b) : Calls Tryz.prog 84 #[.string (B (92 :: c :: r))] w (RetBN (escR (92 :: c :: r)) w) := by
  obtain ⟨l, hL⟩ : ∃ l, l = 92 :: c :: r := ⟨_, rfl⟩
  have E0 : l[0]? = some 92 := by rw [hL]; rfl
  have E1 : l[1]? = some c := by rw [hL]; rfl
  have hn : 2 ≤ l.length ∧ l.length ≤ 1000010 := by rw [hL]; simp; omega
  have hv : escR (92 :: c :: r) = (b, 2) := by unfold escR; simp only [hc]
  rw [hv]
  clear hv
  rw [← hL]
  obtain ⟨p0, e0⟩ := byte_at l 0 92 E0
  obtain ⟨p1, e1⟩ := byte_at l 1 c E1
  have b0 : ((((B l)[0]'p0).toNat : Int) != 92) = false := by rw [e0]; rfl
  have nI : ¬ (l.length : Int) < 2 := by omega
  have n1 : (1 : Int) < l.length := by omega
  have n0 : (0 : Int) < l.length := by omega
  have HN0 := Lib.hid (fun h => (show False by have := esc_no c h; rw [hc] at this; cases this))
  have HAT := Lib.hid (fun k (hk : k < 7) (he : c = escN.getD k 0) => (show escV.getD k 0 = b by rw [he, esc_at k hk] at hc; exact Option.some.inj hc))
  clear E0 E1 e0 hL hc
  go_enter Tryz.func84, Tryz.ntmps84
  go_wp2
  go_loopw [6] (fun i wr => ∃ k : Nat, k ≤ 7 ∧ i = .int .i64 k ∧ Nx w wr ∧ Hid (∀ j, j < k → ¬ c = escN.getD j 0)) (fun i _ => 7 - (intOf i).toNat)
  case atStart => exact ⟨0, by omega, rfl, Nx.refl _, Lib.hid (fun j h => by omega)⟩
  case round =>
    obtain ⟨k, hk, rfl, hn, hno⟩ := hrel
    have HN := Lib.hid hn
    clear hn
    by_cases hlt : k < 7
    · obtain ⟨q2, f2⟩ := byte_at escN k _ (esc_get escN k hlt)
      obtain ⟨q3, f3⟩ := byte_at escV k _ (esc_get escV k hlt)
      have k0 : 0 ≤ (k : Int) := by omega
      have k7 : (k : Int) < 7 := by omega
      by_cases he : c = escN.getD k 0
      · have hb : (((c.toNat : Nat) : Int) == (((({ data := #[110, 116, 114, 48, 92, 39, 34] } : ByteArray)[k]'q2).toNat : Nat) : Int)) = true := by
          show ((c.toNat : Int) == (((B escN)[k]'q2).toNat : Int)) = true
          rw [byte_eq, f2]
          exact beq_iff_eq.2 he.symm
        have HR := Lib.hid (show (B escV)[k]'q3 = b by rw [f3]; exact HAT.out k hlt he)
        clear f2 f3 he
        go_wp2
        go_quiet (fail)
        go_wp2
        go_ret2
        exact ⟨ret2_u8n (by rw [← HR.out]; rfl), HN.out.drewN _⟩
      · have hb : (((c.toNat : Nat) : Int) == (((({ data := #[110, 116, 114, 48, 92, 39, 34] } : ByteArray)[k]'q2).toNat : Nat) : Int)) = false := by
          show ((c.toNat : Int) == (((B escN)[k]'q2).toNat : Int)) = false
          rw [byte_eq, f2]
          exact beq_eq_false_iff_ne.2 (fun h => he h.symm)
        have HE := Lib.hid he
        clear f2 f3 he
        go_wp2
        go_quiet (fail)
        go_wp2
        go_roundw
        case rel =>
          refine ⟨k + 1, by omega, by go_num, HN.out.drewN _, Lib.hid (fun j hj => ?_)⟩
          by_cases ej : j = k
          · subst ej; exact HE.out
          · exact hno.out j (by omega)
        case measure => simp [intOf]; omega
    · exact (HN0.out (fun j hj => hno.out j (by omega))).elim

theorem escape_any (l : List UInt8) (w : World) (hl : l.length ≤ 1000000) : Calls Tryz.prog 84 #[.string (B l)] w (RetBN (escR l) w) := by
  match l, hl with
  | [], _ => exact escape_short [] w (by decide)
  | [a], _ => exact escape_short [a] w (by simp)
  | a :: c :: r, hl =>
    have hr : r.length ≤ 1000000 := by simp at hl; omega
    by_cases ha : a = 92
    · subst ha
      cases hc : escTab c with
      | some b => exact escape_tab c b r w hr hc
      | none =>
        by_cases hx : c = 120
        · match r, hr with
          | [], hr => exact escape_xsh c [] w hr hc hx (by decide)
          | [a], hr => exact escape_xsh c [a] w hr hc hx (by simp)
          | a :: b :: r, hr =>
            have hr' : r.length ≤ 1000000 := by simp at hr; omega
            cases h1 : hexN.contains a
            · exact escape_xa c a b r w hr' hc hx h1
            · cases h2 : hexN.contains b
              · exact escape_xb c a b r w hr' hc hx h1 h2
              · exact escape_xx c a b r w hr' hc hx h1 h2
        · exact escape_nox c r w hr hc hx
    · exact escape_not a (c :: r) w (by simp) (by simp at hl ⊢; omega) ha

end Go.Proofs.YtdgmdkkockbkjaaGreatDoor

