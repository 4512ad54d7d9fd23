/- Contracts of package lex: escapes; a byte within quotes. -/
import Derived.Test.YtbkgdepblaibkaaDoorLxa
import Derived.Test.YtbkgdepblaibkaaDoorQuiet
namespace Go.Proofs.YtbkgdepblaibkaaDoor
open Go.RowKit
set_option linter.unusedVariables false
set_option linter.unusedSimpArgs false

def RetBL (r : UInt8 × Nat) (w : World) (e : Ending) (w' : World) : Prop := e = .returned (.tuple #[.int .u8 r.1.toNat, .int .i64 (r.2 : Nat)]) ∧ Nx w w'

theorem lesc_short (g o c : Nat) (w : World) (l : List UInt8) (h : l.length < 2) (r : UInt8 × Nat) (hr : r = (0, 0)) : Calls Tryd.prog 95 #[.slice (some ⟨g, o, none⟩) l.length c] w (RetBL r w) := by
  have d : decide ((l.length : Int) < 2) = true := decide_eq_true (by omega)
  have HV := Lib.hid hr
  clear hr
  go_enter Tryd.func95, Tryd.ntmps95
  go_wp2
  go_ret2
  exact ⟨by rw [HV.out]; rfl, Nx.refl w⟩

theorem lesc_n (g o c n : Nat) (w : World) (h2 : 2 ≤ n) (hn : n ≤ 1000000) (c1 : w.cell? ⟨g, o + 1, none⟩ = some (.int .u8 110)) : Calls Tryd.prog 95 #[.slice (some ⟨g, o, none⟩) n c] w (RetBL (10, 2) w) := by
  have d : decide ((n : Int) < 2) = false := decide_eq_false (by omega)
  have d1 : (1 : Int) < n := by omega
  go_enter Tryd.func95, Tryd.ntmps95
  go_wp2
  go_ret2
  exact ⟨rfl, Nx.refl w⟩

theorem lesc_t (g o c n : Nat) (w : World) (h2 : 2 ≤ n) (hn : n ≤ 1000000) (c1 : w.cell? ⟨g, o + 1, none⟩ = some (.int .u8 116)) : Calls Tryd.prog 95 #[.slice (some ⟨g, o, none⟩) n c] w (RetBL (9, 2) w) := by
  have d : decide ((n : Int) < 2) = false := decide_eq_false (by omega)
  have d1 : (1 : Int) < n := by omega
  go_enter Tryd.func95, Tryd.ntmps95
  go_wp2
  go_ret2
  exact ⟨rfl, Nx.refl w⟩

theorem lesc_r (g o c n : Nat) (w : World) (h2 : 2 ≤ n) (hn : n ≤ 1000000) (c1 : w.cell? ⟨g, o + 1, none⟩ = some (.int .u8 114)) : Calls Tryd.prog 95 #[.slice (some ⟨g, o, none⟩) n c] w (RetBL (13, 2) w) := by
  have d : decide ((n : Int) < 2) = false := decide_eq_false (by omega)
  have d1 : (1 : Int) < n := by omega
  go_enter Tryd.func95, Tryd.ntmps95
  go_wp2
  go_ret2
  exact ⟨rfl, Nx.refl w⟩

theorem lesc_0 (g o c n : Nat) (w : World) (h2 : 2 ≤ n) (hn : n ≤ 1000000) (c1 : w.cell? ⟨g, o + 1, none⟩ = some (.int .u8 48)) : Calls Tryd.prog 95 #[.slice (some ⟨g, o, none⟩) n c] w (RetBL (0, 2) w) := by
  have d : decide ((n : Int) < 2) = false := decide_eq_false (by omega)
  have d1 : (1 : Int) < n := by omega
  go_enter Tryd.func95, Tryd.ntmps95
  go_wp2
  go_ret2
  exact ⟨rfl, Nx.refl w⟩

theorem lesc_b (g o c n : Nat) (w : World) (h2 : 2 ≤ n) (hn : n ≤ 1000000) (c1 : w.cell? ⟨g, o + 1, none⟩ = some (.int .u8 92)) : Calls Tryd.prog 95 #[.slice (some ⟨g, o, none⟩) n c] w (RetBL (92, 2) w) := by
  have d : decide ((n : Int) < 2) = false := decide_eq_false (by omega)
  have d1 : (1 : Int) < n := by omega
  go_enter Tryd.func95, Tryd.ntmps95
  go_wp2
  go_ret2
  exact ⟨rfl, Nx.refl w⟩

theorem lesc_q (g o c n : Nat) (w : World) (h2 : 2 ≤ n) (hn : n ≤ 1000000) (c1 : w.cell? ⟨g, o + 1, none⟩ = some (.int .u8 39)) : Calls Tryd.prog 95 #[.slice (some ⟨g, o, none⟩) n c] w (RetBL (39, 2) w) := by
  have d : decide ((n : Int) < 2) = false := decide_eq_false (by omega)
  have d1 : (1 : Int) < n := by omega
  go_enter Tryd.func95, Tryd.ntmps95
  go_wp2
  go_ret2
  exact ⟨rfl, Nx.refl w⟩

theorem lesc_d (g o c n : Nat) (w : World) (h2 : 2 ≤ n) (hn : n ≤ 1000000) (c1 : w.cell? ⟨g, o + 1, none⟩ = some (.int .u8 34)) : Calls Tryd.prog 95 #[.slice (some ⟨g, o, none⟩) n c] w (RetBL (34, 2) w) := by
  have d : decide ((n : Int) < 2) = false := decide_eq_false (by omega)
  have d1 : (1 : Int) < n := by omega
  go_enter Tryd.func95, Tryd.ntmps95
  go_wp2
  go_ret2
  exact ⟨rfl, Nx.refl w⟩

/-- Escapes of one letter. -/
def escL : List UInt8 := [110, 116, 114, 48, 92, 39, 34]

theorem lesc_other (g o c n : Nat) (w : World) (x : UInt8) (h2 : 2 ≤ n) (hn : n ≤ 1000000) (c1 : w.cell? ⟨g, o + 1, none⟩ = some (.int .u8 x.toNat)) (hx : ¬ x ∈ escL) (h120 : ¬ x = 120) : Calls Tryd.prog 95 #[.slice (some ⟨g, o, none⟩) n c] w (RetBL (0, 0) w) := by
  have d : decide ((n : Int) < 2) = false := decide_eq_false (by omega)
  have d1 : (1 : Int) < n := by omega
  have b110 : ((x.toNat : Int) == 110) = false := u8n x 110 (by omega) false (beq_eq_false_iff_ne.2 (by intro e; apply hx; rw [e]; decide))
  have b116 : ((x.toNat : Int) == 116) = false := u8n x 116 (by omega) false (beq_eq_false_iff_ne.2 (by intro e; apply hx; rw [e]; decide))
  have b114 : ((x.toNat : Int) == 114) = false := u8n x 114 (by omega) false (beq_eq_false_iff_ne.2 (by intro e; apply hx; rw [e]; decide))
  have b48 : ((x.toNat : Int) == 48) = false := u8n x 48 (by omega) false (beq_eq_false_iff_ne.2 (by intro e; apply hx; rw [e]; decide))
  have b92 : ((x.toNat : Int) == 92) = false := u8n x 92 (by omega) false (beq_eq_false_iff_ne.2 (by intro e; apply hx; rw [e]; decide))
  have b39 : ((x.toNat : Int) == 39) = false := u8n x 39 (by omega) false (beq_eq_false_iff_ne.2 (by intro e; apply hx; rw [e]; decide))
  have b34 : ((x.toNat : Int) == 34) = false := u8n x 34 (by omega) false (beq_eq_false_iff_ne.2 (by intro e; apply hx; rw [e]; decide))
  have b120 : ((x.toNat : Int) == 120) = false := u8n x 120 (by omega) false (beq_eq_false_iff_ne.2 h120)
  clear hx h120
  go_enter Tryd.func95, Tryd.ntmps95
  go_wp2
  go_ret2
  exact ⟨rfl, Nx.refl w⟩

theorem lesc_xs (g o c n : Nat) (w : World) (h2 : 2 ≤ n) (h4 : n < 4) (c1 : w.cell? ⟨g, o + 1, none⟩ = some (.int .u8 120)) : Calls Tryd.prog 95 #[.slice (some ⟨g, o, none⟩) n c] w (RetBL (0, 0) w) := by
  have d : decide ((n : Int) < 2) = false := decide_eq_false (by omega)
  have d1 : (1 : Int) < n := by omega
  have d4 : decide ((4 : Int) ≤ n) = false := decide_eq_false (by omega)
  go_enter Tryd.func95, Tryd.ntmps95
  go_wp2
  go_ret2
  exact ⟨rfl, Nx.refl w⟩

theorem lesc_xa (g o c n : Nat) (w : World) (a : UInt8) (h4 : 4 ≤ n) (hn : n ≤ 1000000) (c1 : w.cell? ⟨g, o + 1, none⟩ = some (.int .u8 120)) (c2 : w.cell? ⟨g, o + 2, none⟩ = some (.int .u8 a.toNat)) (ha : 16 ≤ digP a) : Calls Tryd.prog 95 #[.slice (some ⟨g, o, none⟩) n c] w (RetBL (0, 0) w) := by
  have d : decide ((n : Int) < 2) = false := decide_eq_false (by omega)
  have d1 : (1 : Int) < n := by omega
  have d2 : (2 : Int) < n := by omega
  have d3 : (3 : Int) < n := by omega
  have d4 : decide ((4 : Int) ≤ n) = true := decide_eq_true (by omega)
  have CA := Lib.hid (ldigit_any a w)
  generalize digP a = p at *
  have e1 : decide ((p : Int) < 16) = false := decide_eq_false (by omega)
  go_enter Tryd.func95, Tryd.ntmps95
  go_wp2_with fail
  refine CA.out.mono ?_
  rintro e w2 ⟨rfl, rfl⟩
  go_wp2
  go_ret2
  exact ⟨rfl, Nx.refl w⟩

theorem lesc_xb (g o c n : Nat) (w : World) (a b : UInt8) (h4 : 4 ≤ n) (hn : n ≤ 1000000) (c1 : w.cell? ⟨g, o + 1, none⟩ = some (.int .u8 120)) (c2 : w.cell? ⟨g, o + 2, none⟩ = some (.int .u8 a.toNat)) (c3 : w.cell? ⟨g, o + 3, none⟩ = some (.int .u8 b.toNat)) (ha : digP a < 16) (hb : 16 ≤ digP b) : Calls Tryd.prog 95 #[.slice (some ⟨g, o, none⟩) n c] w (RetBL (0, 0) w) := by
  have d : decide ((n : Int) < 2) = false := decide_eq_false (by omega)
  have d1 : (1 : Int) < n := by omega
  have d2 : (2 : Int) < n := by omega
  have d3 : (3 : Int) < n := by omega
  have d4 : decide ((4 : Int) ≤ n) = true := decide_eq_true (by omega)
  have CA := Lib.hid (ldigit_any a w)
  have CB := Lib.hid (ldigit_any b w)
  generalize digP a = p at *
  generalize digP b = q at *
  have e1 : decide ((p : Int) < 16) = true := decide_eq_true (by omega)
  have e2 : decide ((q : Int) < 16) = false := decide_eq_false (by omega)
  go_enter Tryd.func95, Tryd.ntmps95
  go_wp2_with fail
  refine CA.out.mono ?_
  rintro e w2 ⟨rfl, rfl⟩
  go_wp2_with fail
  refine CB.out.mono ?_
  rintro e w2 ⟨rfl, rfl⟩
  go_wp2
  go_ret2
  exact ⟨rfl, Nx.refl w⟩

set_option maxHeartbeats 1000000 in
set_option maxRecDepth 100000 in
theorem lesc_xx (g o c n : Nat) (w : World) (a b : UInt8) (h4 : 4 ≤ n) (hn : n ≤ 1000000) (c1 : w.cell? ⟨g, o + 1, none⟩ = some (.int .u8 120)) (c2 : w.cell? ⟨g, o + 2, none⟩ = some (.int .u8 a.toNat)) (c3 : w.cell? ⟨g, o + 3, none⟩ = some (.int .u8 b.toNat)) (ha : digP a < 16) (hb : digP b < 16) : Calls Tryd.prog 95 #[.slice (some ⟨g, o, none⟩) n c] w (RetBL (UInt8.ofNat (digP a * 16 + digP b), 4) w) := by
  have d : decide ((n : Int) < 2) = false := decide_eq_false (by omega)
  have d1 : (1 : Int) < n := by omega
  have d2 : (2 : Int) < n := by omega
  have d3 : (3 : Int) < n := by omega
  have d4 : decide ((4 : Int) ≤ n) = true := decide_eq_true (by omega)
  have CA := Lib.hid (fun w => ldigit_any a w)
  have CB := Lib.hid (fun w => ldigit_any b w)
  have hz := block_lt c2
  have hbits := bits_nib (digP a) (digP b) ha hb
  generalize digP a = p at *
  generalize digP b = q at *
  have e1 : decide ((p : Int) < 16) = true := decide_eq_true (by omega)
  have e2 : decide ((q : Int) < 16) = true := decide_eq_true (by omega)
  have pI : (p : Int) < 16 := by omega
  have qI : (q : Int) < 16 := by omega
  obtain ⟨z, hz2⟩ : ∃ z, p * 16 + q = z := ⟨_, rfl⟩
  have hz3 : z < 256 := by omega
  have hzI : (z : Int) < 256 := by omega
  rw [hz2] at hbits ⊢
  have HW := Lib.hid (show IntKind.u8.wrap (bits BinOp.or IntKind.u64 (IntKind.u64.wrap ((p : Int) * 16)) (q : Int)) = z by rw [show IntKind.u64.wrap ((p : Int) * 16) = (p : Int) * 16 by rw [IntKind.wrap_u64]; omega, hbits, IntKind.wrap_u8]; omega)
  clear hbits
  have HZ := Lib.hid (show (UInt8.ofNat z).toNat = z by rw [UInt8.toNat_ofNat']; omega)
  generalize UInt8.ofNat z = zb at *
  clear hz2
  go_enter Tryd.func95, Tryd.ntmps95
  go_wp2_with fail
  refine (CA.out _).mono ?_
  rintro e w2 ⟨rfl, rfl⟩
  go_wp2_with fail
  refine (CB.out _).mono ?_
  rintro e w2 ⟨rfl, rfl⟩
  go_wp2
  (refine wp_region_nx 11 (by kernel_rfl) (by kernel_rfl) ?_; simp only [List.take_succ_cons, List.take_zero, List.drop_succ_cons, List.drop_zero]; (repeat (refine wpQuiet_step (fun K hK => ?_); go_simp; first | (refine hK _ ?_; clear hK K) | (apply Exists.intro; refine ⟨fun w' hw' => ?_, hK _ ?_⟩; (first | (with_reducible rfl) | (go_at_call 92; with_reducible exact (CA.out _).mono fun _ _ h => ⟨h.1, hw'.trans (Nx.of_eq h.2)⟩) | (go_at_call 92; with_reducible exact (CB.out _).mono fun _ _ h => ⟨h.1, hw'.trans (Nx.of_eq h.2)⟩) | (obtain ⟨hc, hf⟩ := nx_cells hw'; go_simp; with_reducible rfl) | (obtain ⟨hc, hf⟩ := nx_cells hw'; go_simp; rfl)); clear hK K))); refine wpQuiet_nil ?_; intro w3 hn3)
  have H3 := Lib.hid hn3
  clear hn3
  go_wp2
  go_ret2
  refine ⟨?_, H3.out⟩
  show Ending.returned (.tuple #[.int .u8 (IntKind.u8.wrap (bits BinOp.or IntKind.u64 (IntKind.u64.wrap ((p : Int) * 16)) (q : Int))), .int .i64 4]) = _
  rw [HW.out, HZ.out]
  rfl

theorem lesc_any (g o c : Nat) (l : List UInt8) (w : World) (hb : BysAt w g o l) (hl : l.length ≤ 1000000) (h1 : 1 ≤ l.length) (h92 : l.getD 0 0 = 92) : Calls Tryd.prog 95 #[.slice (some ⟨g, o, none⟩) l.length c] w (RetBL (escR l) w) := by
  match l, h1, h92 with
  | [a], _, h92 =>
    refine lesc_short g o c w [a] (by simp) _ ?_
    rw [show a = 92 from h92]; rfl
  | a :: x :: tl, _, h92 =>
    obtain rfl : a = 92 := h92
    have c1 := hb 1 x rfl
    have hn : (92 :: x :: tl).length ≤ 1000000 := hl
    have h2 : 2 ≤ (92 :: x :: tl).length := by simp
    by_cases hx : x ∈ escL
    · simp only [escL, List.mem_cons, List.not_mem_nil, or_false] at hx
      rcases hx with rfl | rfl | rfl | rfl | rfl | rfl | rfl
      · exact lesc_n g o c _ w h2 hn c1
      · exact lesc_t g o c _ w h2 hn c1
      · exact lesc_r g o c _ w h2 hn c1
      · exact lesc_0 g o c _ w h2 hn c1
      · exact lesc_b g o c _ w h2 hn c1
      · exact lesc_q g o c _ w h2 hn c1
      · exact lesc_d g o c _ w h2 hn c1
    · have ht : escTab x = none := by
        unfold escTab
        simp only [escL, List.mem_cons, List.not_mem_nil, or_false, not_or] at hx
        obtain ⟨k1, k2, k3, k4, k5, k6, k7⟩ := hx
        rw [if_neg k1, if_neg k2, if_neg k3, if_neg k4, if_neg k5, if_neg k6, if_neg k7]
      by_cases h120 : x = 120
      · subst h120
        match tl, hb, c1, hn, h2 with
        | [], hb, c1, hn, h2 => exact lesc_xs g o c _ w h2 (by simp) c1
        | [a], hb, c1, hn, h2 => exact lesc_xs g o c _ w h2 (by simp) c1
        | a :: b :: tl, hb, c1, hn, h2 =>
          have c2 := hb 2 a rfl
          have c3 := hb 3 b rfl
          have h4 : 4 ≤ (92 :: 120 :: a :: b :: tl).length := by simp
          have er : escR (92 :: 120 :: a :: b :: tl) = if hexN.contains a = true ∧ hexN.contains b = true then (UInt8.ofNat (digV a * 16 + digV b), 4) else (0, 0) := rfl
          rw [er, dig16, dig16]
          by_cases ha : digP a < 16
          · by_cases hbb : digP b < 16
            · rw [if_pos ⟨by simpa using ha, by simpa using hbb⟩, digV_P a ha, digV_P b hbb]
              exact lesc_xx g o c _ w a b h4 hn c1 c2 c3 ha hbb
            · rw [if_neg (fun h => hbb (by simpa using h.2))]
              exact lesc_xb g o c _ w a b h4 hn c1 c2 c3 ha (by omega)
          · rw [if_neg (fun h => ha (by simpa using h.1))]
            exact lesc_xa g o c _ w a h4 hn c1 c2 (by omega)
      · have er : escR (92 :: x :: tl) = (0, 0) := by
          show (match escTab x with | some b => (b, 2) | none => if x = 120 then _ else (0, 0)) = _
          rw [ht]
          exact if_neg h120
        rw [er]
        exact lesc_other g o c _ w x h2 hn c1 hx h120

/-- A byte within quotes, by the program's way. -/
def oneP (q : UInt8) : List UInt8 → UInt8 × Nat
  | [] => (0, 0)
  | c :: l => if c.toNat < 32 ∨ c = q then (0, 0) else if c = 92 then escR (c :: l) else (c, 1)

theorem lone_nil (A : Option Addr) (c : Nat) (q : UInt8) (w : World) : Calls Tryd.prog 91 #[.slice A 0 c, .int .u8 q.toNat] w (RetBL (0, 0) w) := by
  go_enter Tryd.func91, Tryd.ntmps91
  go_wp2
  go_ret2
  exact ⟨rfl, Nx.refl w⟩

theorem lone_cons (g o c : Nat) (x : UInt8) (tl : List UInt8) (q : UInt8) (w : World) (hb : BysAt w g o (x :: tl)) (hl : (x :: tl).length ≤ 1000000) : Calls Tryd.prog 91 #[.slice (some ⟨g, o, none⟩) (x :: tl).length c, .int .u8 q.toNat] w (RetBL (oneP q (x :: tl)) w) := by
  have c0 := hb 0 x rfl
  rw [Nat.add_zero] at c0
  have CE := fun h => lesc_any g o c (x :: tl) w hb hl (by simp) h
  obtain ⟨n, hn⟩ : ∃ n, n = (x :: tl).length := ⟨_, rfl⟩
  have hn1 : 1 ≤ n := by rw [hn]; simp
  have HV := Lib.hid (show oneP q (x :: tl) = if x.toNat < 32 ∨ x = q then (0, 0) else if x = 92 then escR (x :: tl) else (x, 1) from rfl)
  generalize oneP q (x :: tl) = V at *
  rw [← hn] at CE hl ⊢
  have dn : ((n : Int) == 0) = false := beq_eq_false_iff_ne.2 (by omega)
  have dn0 : (0 : Int) < n := by omega
  clear hn hb
  by_cases h32 : x.toNat < 32
  · have d : decide ((x.toNat : Int) < 32) = true := decide_eq_true (by omega)
    have HV2 := Lib.hid (HV.out.trans (if_pos (Or.inl h32)))
    clear HV CE h32
    go_enter Tryd.func91, Tryd.ntmps91
    go_wp2
    go_ret2
    exact ⟨by rw [HV2.out]; rfl, Nx.refl w⟩
  · have d : decide ((x.toNat : Int) < 32) = false := decide_eq_false (by omega)
    by_cases hq : x = q
    · have b : ((x.toNat : Int) == (q.toNat : Int)) = true := by rw [hq]; simp
      have HV2 := Lib.hid (HV.out.trans (if_pos (Or.inr hq)))
      clear HV CE h32 hq
      go_enter Tryd.func91, Tryd.ntmps91
      go_wp2
      go_ret2
      exact ⟨by rw [HV2.out]; rfl, Nx.refl w⟩
    · have b : ((x.toNat : Int) == (q.toNat : Int)) = false := beq_eq_false_iff_ne.2 (fun e => hq (UInt8.toNat_inj.1 (by omega)))
      have HV1 := HV.out.trans (if_neg (fun h => h.elim h32 hq))
      by_cases h92 : x = 92
      · have b92 : ((x.toNat : Int) == 92) = true := u8n x 92 (by omega) true (by rw [h92]; rfl)
        have HV2 := Lib.hid (HV1.trans (if_pos h92))
        have CE2 := Lib.hid (CE h92)
        clear HV CE h32 hq HV1 h92
        generalize escR (x :: tl) = r at *
        go_enter Tryd.func91, Tryd.ntmps91
        go_wp2_with fail
        refine CE2.out.mono ?_
        rintro e w2 ⟨rfl, hn2⟩
        have HN2 := Lib.hid hn2
        clear hn2
        go_wp2
        go_ret2
        exact ⟨by rw [HV2.out]; rfl, HN2.out⟩
      · have b92 : ((x.toNat : Int) == 92) = false := u8n x 92 (by omega) false (beq_eq_false_iff_ne.2 h92)
        have HV2 := Lib.hid (HV1.trans (if_neg h92))
        clear HV CE h32 hq HV1 h92
        go_enter Tryd.func91, Tryd.ntmps91
        go_wp2
        go_ret2
        exact ⟨by rw [HV2.out]; rfl, Nx.refl w⟩

end Go.Proofs.YtbkgdepblaibkaaDoor
