/- Contracts of package lex: characters, numbers. -/
import Derived.Test.YtbkgdepblaibkaaDoorLxc
namespace Go.Proofs.YtbkgdepblaibkaaDoor
open Go.RowKit
set_option linter.unusedVariables false
set_option linter.unusedSimpArgs false

/-- A character at the beginning, and how long it is. -/
def charR (l : List UInt8) : Tok × Nat × Nat :=
  if 0 < (quoR 39 (l.drop 1)).2 ∧ (quoR 39 (l.drop 1)).2 < (l.drop 1).length ∧ (l.drop 1).getD (quoR 39 (l.drop 1)).2 0 = 39 then (tokU (quoR 39 (l.drop 1)).1.toNat, (quoR 39 (l.drop 1)).2 + 2, 0) else (tok0, 0, 3)

theorem quoR39_nil : quoR 39 [] = (0, 0) := rfl

/-- What one is asked: the bytes behind the first one. -/
theorem lone_tail (g o c : Nat) (l : List UInt8) (w : World) (hb : BysAt w g o l) (h1 : 1 ≤ l.length) (hl : l.length ≤ 1000000) (hlc : l.length ≤ c) (A : Option Addr) (hA : A = if c = 1 then some ⟨g, o, none⟩ else some ⟨g, o + 1, none⟩) :
    Calls Tryd.prog 91 #[.slice A (l.length - 1) (c - 1), .int .u8 39] w (RetBL (quoR 39 (l.drop 1)) w) := by
  rw [quo_one39]
  by_cases h2 : l.length = 1
  · have hd : l.drop 1 = [] := List.drop_eq_nil_of_le (by omega)
    rw [hd, h2]
    exact lone_nil A (c - 1) 39 w
  · subst hA
    rw [if_neg (by omega)]
    exact lone_at g (o + 1) (c - 1) (l.drop 1) (l.length - 1) 39 w (hb.cut 1) (by rw [List.length_drop]) (by omega) (by omega)

set_option maxHeartbeats 1000000 in
set_option maxRecDepth 100000 in
theorem lchar_any (g o c : Nat) (l : List UInt8) (w : World) (hb : BysAt w g o l) (h1 : 1 ≤ l.length) (hl : l.length ≤ 1000000) (hlc : l.length ≤ c) (hcm : c ≤ maxLen) : Calls Tryd.prog 79 #[.slice (some ⟨g, o, none⟩) l.length c] w (RetTokE (charR l) w) := by
  have HV := Lib.hid (show charR l = if 0 < (quoR 39 (l.drop 1)).2 ∧ (quoR 39 (l.drop 1)).2 < (l.drop 1).length ∧ (l.drop 1).getD (quoR 39 (l.drop 1)).2 0 = 39 then (tokU (quoR 39 (l.drop 1)).1.toNat, (quoR 39 (l.drop 1)).2 + 2, 0) else (tok0, 0, 3) from rfl)
  generalize charR l = V at *
  have HB := Lib.hid hb
  unfold maxLen at hcm
  have CO := Lib.hid (fun w' (hn : Nx w w') => lone_tail g o c l w' (hb.nx hn) h1 hl hlc _ rfl)
  have hle := quoR_le 39 (l.drop 1)
  have hdl : (l.drop 1).length = l.length - 1 := List.length_drop
  rw [hdl] at hle HV
  have hgd : ∀ k, (l.drop 1).getD k 0 = l.getD (k + 1) 0 := fun k => by rw [List.getD_eq_getElem?_getD, List.getElem?_drop, List.getD_eq_getElem?_getD, Nat.add_comm]
  rw [hgd] at HV
  clear hb hgd hdl
  have h1I : (1 : Int) ≤ l.length := by omega
  have h1c : (1 : Int) ≤ c := by omega
  generalize quoR 39 (l.drop 1) = q at *
  have byc : (c = 1) ∨ (1 < c) := by omega
  by_cases hok : 0 < q.2 ∧ q.2 < l.length - 1 ∧ l.getD (q.2 + 1) 0 = 39
  · have HV2 := Lib.hid (HV.out.trans (if_pos hok))
    obtain ⟨k1, k2, k3⟩ := hok
    obtain ⟨x, hx⟩ : ∃ x, l[q.2 + 1]? = some x := ⟨_, List.getElem?_eq_getElem (by omega)⟩
    have hx39 : x = 39 := by rw [← getD_at l _ x hx]; exact k3
    have cx := HB.out (q.2 + 1) x hx
    have b39 : ((x.toNat : Int) != 39) = false := by have := u8n x 39 (by omega) true (by rw [hx39]; rfl); simpa using this
    have bz : ((q.2 : Int) == 0) = false := beq_eq_false_iff_ne.2 (by omega)
    have bl : decide ((l.length : Int) ≤ (q.2 : Int) + 1) = false := decide_eq_false (by omega)
    have q2I : (q.2 : Int) + 1 < l.length := by omega
    have hu := q.1.toNat_lt
    clear HV k3 hx hx39 HB
    have CO := Lib.hid (show ∀ w', Nx w w' → Calls Tryd.prog 91 #[.slice (some ⟨g, o + 1, none⟩) (l.length - 1) (c - 1), .int .u8 39] w' (RetBL q w') from by have := CO.out; rwa [if_neg (by omega)] at this)
    have hc2 : 1 < c := by omega
    have hc2I : (1 : Int) < c := by omega
    clear byc
    go_enter Tryd.func79, Tryd.ntmps79
    go_wp2_with fail
    refine (CO.out _ ((Nx.refl w).alloc _)).mono ?_
    rintro e w2 ⟨rfl, hn2⟩
    have HX2 := Lib.hid (((Nx.refl w).alloc _).trans hn2)
    have cx2 := HX2.out.cell cx
    have HH2 := Lib.hid ((Has.new w rt0).nx hn2)
    clear hn2 cx
    have hh := HH2.out
    unfold rt0 at hh
    have r0 := hh.cell 0 _ rfl
    have r1 := hh.cell 1 _ rfl
    have r2 := hh.cell 2 _ rfl
    have r3 := hh.cell 3 _ rfl
    have r4 := hh.cell 4 _ rfl
    have r5 := hh.cell 5 _ rfl
    have f0 := hh.free 0
    have f1 := hh.free 1
    have f2 := hh.free 2
    have f3 := hh.free 3
    have f4 := hh.free 4
    have f5 := hh.free 5
    clear hh
    go_wp2
    refine bodyPost_ret (v := .tuple #[.agg #[.int .i64 5, .int .i64 0, .int .i64 0, .string (B []), .int .u32 q.1.toNat, .int .i64 0], .int .i64 ((q.2 : Int) + 2), .nilIface]) (by simp [results, Tryd.results79, go_sem, r0, r1, r2, r3, r4, r5, f0, f1, f2, f3, f4, f5]) rfl ?_
    rw [HV2.out]
    refine tokE_is (tokU q.1.toNat) (q.2 + 2) 0 ((q.2 : Int) + 2) (by omega) (by omega) w _ ?_
    repeat (with_reducible first | exact HX2.out | refine Nx.drew ?_ | refine Nx.setCell ?_ (Nat.le_refl _) _ | refine Nx.alloc ?_ _)
  · have HV2 := Lib.hid (HV.out.trans (if_neg hok))
    have tests : (((q.2 : Int) == 0) = true) ∨ ((((q.2 : Int) == 0) = false) ∧ decide ((l.length : Int) ≤ (q.2 : Int) + 1) = true) ∨ ((((q.2 : Int) == 0) = false) ∧ decide ((l.length : Int) ≤ (q.2 : Int) + 1) = false ∧ (q.2 : Int) + 1 < l.length ∧ 1 < c ∧ ∃ x : UInt8, w.cell? ⟨g, o + (q.2 + 1), none⟩ = some (.int .u8 x.toNat) ∧ ((x.toNat : Int) != 39) = true) := by
      by_cases h0 : q.2 = 0
      · exact Or.inl (by rw [h0]; rfl)
      · have b0 : ((q.2 : Int) == 0) = false := beq_eq_false_iff_ne.2 (by omega)
        by_cases h2 : l.length - 1 ≤ q.2
        · exact Or.inr (Or.inl ⟨b0, decide_eq_true (by omega)⟩)
        · obtain ⟨x, hx⟩ : ∃ x, l[q.2 + 1]? = some x := ⟨_, List.getElem?_eq_getElem (by omega)⟩
          refine Or.inr (Or.inr ⟨b0, decide_eq_false (by omega), by omega, by omega, x, HB.out _ x hx, ?_⟩)
          have hx39 : ¬ x = 39 := fun e => hok ⟨by omega, by omega, by rw [getD_at l _ x hx]; exact e⟩
          have := u8n x 39 (by omega) false (beq_eq_false_iff_ne.2 hx39)
          simpa using this
    clear HV hok HB
    rcases byc with rfl | hc1
    · have CO2 : Hid (∀ w', Nx w w' → Calls Tryd.prog 91 #[.slice (some ⟨g, o, none⟩) 0 0, .int .u8 39] w' (RetBL q w')) := Lib.hid (fun w' hw => by have := CO.out w' hw; rw [if_pos rfl, show l.length - 1 = 0 by omega] at this; exact this)
      clear CO
      rcases tests with bz | ⟨bz, bl⟩ | ⟨_, _, _, h, _⟩
      rotate_left 2
      · omega
      all_goals
        go_enter Tryd.func79, Tryd.ntmps79
        go_wp2_with fail
        refine (CO2.out _ ((Nx.refl w).alloc _)).mono ?_
        rintro e w2 ⟨rfl, hn2⟩
        have HX2 := Lib.hid (((Nx.refl w).alloc _).trans hn2)
        try have cx2 := HX2.out.cell cx
        have HH2 := Lib.hid ((Has.new w rt0).nx hn2)
        clear hn2
        try clear cx
        have hh := HH2.out
        unfold rt0 at hh
        have r0 := hh.cell 0 _ rfl
        have r1 := hh.cell 1 _ rfl
        have r2 := hh.cell 2 _ rfl
        have r3 := hh.cell 3 _ rfl
        have r4 := hh.cell 4 _ rfl
        have r5 := hh.cell 5 _ rfl
        have f0 := hh.free 0
        have f1 := hh.free 1
        have f2 := hh.free 2
        have f3 := hh.free 3
        have f4 := hh.free 4
        have f5 := hh.free 5
        clear hh
        go_wp2
        refine bodyPost_ret (v := .tuple #[.agg #[.int .i64 0, .int .i64 0, .int .i64 0, .string (B []), .int .u32 0, .int .i64 0], .int .i64 0, .iface 83 (.int .i64 3)]) (by simp [results, Tryd.results79, go_sem, r0, r1, r2, r3, r4, r5, f0, f1, f2, f3, f4, f5]) rfl ?_
        rw [HV2.out]
        refine tokE_bad _ 3 _ _ ?_
        repeat (with_reducible first | exact HX2.out | refine Nx.drew ?_ | refine Nx.setCell ?_ (Nat.le_refl _) _ | refine Nx.alloc ?_ _)
    · have CO2 : Hid (∀ w', Nx w w' → Calls Tryd.prog 91 #[.slice (some ⟨g, o + 1, none⟩) (l.length - 1) (c - 1), .int .u8 39] w' (RetBL q w')) := Lib.hid (fun w' hw => by have := CO.out w' hw; rwa [if_neg (by omega)] at this)
      clear CO
      have hc1I : (1 : Int) < c := by omega
      rcases tests with bz | ⟨bz, bl⟩ | ⟨bz, bl, q2I, _, x, cx, b39⟩
      all_goals
        go_enter Tryd.func79, Tryd.ntmps79
        go_wp2_with fail
        refine (CO2.out _ ((Nx.refl w).alloc _)).mono ?_
        rintro e w2 ⟨rfl, hn2⟩
        have HX2 := Lib.hid (((Nx.refl w).alloc _).trans hn2)
        try have cx2 := HX2.out.cell cx
        have HH2 := Lib.hid ((Has.new w rt0).nx hn2)
        clear hn2
        try clear cx
        have hh := HH2.out
        unfold rt0 at hh
        have r0 := hh.cell 0 _ rfl
        have r1 := hh.cell 1 _ rfl
        have r2 := hh.cell 2 _ rfl
        have r3 := hh.cell 3 _ rfl
        have r4 := hh.cell 4 _ rfl
        have r5 := hh.cell 5 _ rfl
        have f0 := hh.free 0
        have f1 := hh.free 1
        have f2 := hh.free 2
        have f3 := hh.free 3
        have f4 := hh.free 4
        have f5 := hh.free 5
        clear hh
        go_wp2
        refine bodyPost_ret (v := .tuple #[.agg #[.int .i64 0, .int .i64 0, .int .i64 0, .string (B []), .int .u32 0, .int .i64 0], .int .i64 0, .iface 83 (.int .i64 3)]) (by simp [results, Tryd.results79, go_sem, r0, r1, r2, r3, r4, r5, f0, f1, f2, f3, f4, f5]) rfl ?_
        rw [HV2.out]
        refine tokE_bad _ 3 _ _ ?_
        repeat (with_reducible first | exact HX2.out | refine Nx.drew ?_ | refine Nx.setCell ?_ (Nat.le_refl _) _ | refine Nx.alloc ?_ _)

end Go.Proofs.YtbkgdepblaibkaaDoor
