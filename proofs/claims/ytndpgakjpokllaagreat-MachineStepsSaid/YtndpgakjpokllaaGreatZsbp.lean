/- Parts of the proof, one behind the other. -/
import Derived.Great.BuildSlice
import Derived.Test.YtndpgakjpokllaaGreatZsbo
/- Machines beside each other; awake: a machine goes as the document fixes. -/
namespace Go.Proofs.YtndpgakjpokllaaGreat
open Go.RowKit
set_option linter.unusedVariables false
set_option linter.unusedSimpArgs false
set_option maxRecDepth 100000

theorem MachAt.pm_lt {w : World} {p pm b n : Nat} {s : MSt} (h : MachAt w p pm b n s) : pm < w.heap.size := block_lt h.mem.1

theorem MachAt.below {w w' : World} {p pm b n base : Nat} {s : MSt} (h : MachAt w p pm b n s) (hb : Below base w w') (h1 : p < base) (h2 : pm < base) (h3 : b < base) : MachAt w' p pm b n s :=
  ⟨(hb.block p h1).trans h.has, h.good, ⟨(Below.cell hb (p := ⟨pm, 0, none⟩) h2).trans h.mem.1, h.mem.2.of_block (hb.block b h3)⟩, h.pm_ne, h.b_ne⟩

theorem MachAt.chg {w w' : World} {p pm b n p2 b2 : Nat} {s : MSt} (h : MachAt w p pm b n s) (hc : Chg p2 b2 w w') (h1 : p ≠ p2) (h2 : p ≠ b2) (h3 : pm ≠ p2) (h4 : pm ≠ b2) (h5 : b ≠ p2) (h6 : b ≠ b2) : MachAt w' p pm b n s :=
  ⟨(hc.block p h.has.lt h1 h2).trans h.has, h.good, ⟨(World.cell?_of_block (w := w) (hc.block pm h.pm_lt h3 h4)).trans h.mem.1, h.mem.2.of_block (hc.block b h.mem.2.lt h5 h6)⟩, h.pm_ne, h.b_ne⟩

theorem Ref7At.chg {w w' : World} {base q qm n p b : Nat} {s : MSt} (h : Ref7At w base q qm n s) (hc : Chg p b w w') (h1 : p < base) (h2 : b < base) : Ref7At w' base q qm n s :=
  ⟨(hc.block q h.has.lt (by have := h.low; omega) (by have := h.low; omega)).trans h.has, h.good, h.mem.kept fun k hk hb => hc.block k hk (by omega) (by omega), h.low, h.ne⟩

/-- The first machine's cells. -/
def wakL : List (Int × Int) := [(0, 21), (1, 69)]

def wakS : MSt := ⟨[0, 0, 0, 0, 0, 0, 0, 0, 0, 0, 0, 0, 0, 0, 0, 0, 0, 0, 0, 0, 0, 0, 0, 0, 0, 0, 0, 0, 0, 0, 0, 0], 0, memOf wakL⟩

theorem wak_f : fetI wakS.M wakS.pc = ⟨19, 10, 0, 0, 5⟩ ∧ fetN wakS.M wakS.pc = 2 := ⟨by kernel_rfl, by kernel_rfl⟩

theorem wak_o : stepO wakS.M wakS.pc = 0 := by decide +kernel

theorem wak_s : (stepP wakS).rg = [0, 0, 0, 0, 0, 0, 0, 0, 0, 0, 5, 0, 0, 0, 0, 0, 0, 0, 0, 0, 0, 0, 0, 0, 0, 0, 0, 0, 0, 0, 0, 0] ∧ (stepP wakS).pc = 2 := by decide +kernel

theorem wak_o2 : stepO (stepP wakS).M (stepP wakS).pc = 3 := by decide +kernel

theorem nx_setCells {a : World} (g : Nat) (hg : a.heap.size ≤ g) : ∀ (vs : List Value) (o : Nat) (w : World), Nx a w → Nx a (w.setCells g o vs)
  | [], _, _, h => h
  | v :: vs, o, w, h => nx_setCells g hg vs (o + 1) _ (h.setCell (p := ⟨g, o, none⟩) hg v)

theorem wak_good : GoodR [9, 0, 0, 0, 0, 0, 0, 0, 0, 0, 0, 0, 0, 0, 0, 0, 0, 0, 0, 0, 0, 0, 0, 0, 0, 0, 0, 0, 0, 0, 0, 0] := ⟨rfl, fun x hx => by
  simp at hx
  omega⟩

theorem wak_cells : IsCells wakL := fun x hx => by
  simp [wakL] at hx
  rcases hx with rfl | rfl <;> simp

/-- Behind what makes the first machine. -/
def Wak1 (w : World) (v : Value) (wx : World) : Prop := ∃ p pm b, v = .pointer (some ⟨p, 0, none⟩) ∧ w.heap.size ≤ p ∧ w.heap.size ≤ b ∧ MachAt wx p pm b 2 wakS ∧ Nx w wx

set_option maxHeartbeats 4000000 in
theorem awake_any (w : World) : Calls Tryz.prog 7 #[] w fun e w' => e = .returned (.bool true) ∧ Nx w w' := by
  have CN := Lib.hid (fun w' g (h : CellsAt w' (.slice (some ⟨g, 0, none⟩) 2 2) wakL) => new_mach [9, 0, 0, 0, 0, 0, 0, 0, 0, 0, 0, 0, 0, 0, 0, 0, 0, 0, 0, 0, 0, 0, 0, 0, 0, 0, 0, 0, 0, 0, 0, 0] 0 _ wakL wak_good (by omega) (by omega) wak_cells (by decide) w' h)
  have HC := Lib.hid (fun w' (hn : Nx (w.alloc (.cells #[.int .u32 0, .int .u8 21, .int .u32 1, .int .u8 69] 43)) w') => show CellsAt w' (.slice (some ⟨w.heap.size, 0, none⟩) 2 2) wakL from by
    have h0 := (Has.new w (.cells #[.int .u32 0, .int .u8 21, .int .u32 1, .int .u8 69] 43)).nx hn
    refine .inr ⟨w.heap.size, 0, 2, rfl, Nat.le_refl _, by decide, fun k x hx => ?_⟩
    match k, hx with
    | 0, hx => simp [wakL] at hx; subst hx; exact ⟨h0.cell 0 _ rfl, h0.cell 1 _ rfl⟩
    | 1, hx => simp [wakL] at hx; subst hx; exact ⟨h0.cell 2 _ rfl, h0.cell 3 _ rfl⟩
    | k + 2, hx => simp [wakL] at hx)
  go_enter Tryz.func7, Tryz.ntmps7
  go_upto_region 1 with fail
  go_cut [1] from 7 to 12 (fun v wx => Wak1 w v wx)
  case first =>
    go_wp2_with (go_at_call 8; refine (CN.out _ _ (HC.out _ (Nx.refl _))).mono ?_; rintro e w1 ⟨p, pm, b, rfl, hp, hb, hm, hn⟩; have HP := Lib.hid hp; have HB := Lib.hid hb; have HM := Lib.hid hm; have HN := Lib.hid hn; clear hp hb hm hn)
    go_meet
    case rel =>
      have hz := ((Nx.refl w).alloc (.cells #[.int .u32 0, .int .u8 21, .int .u32 1, .int .u8 69] 43)).size
      exact ⟨p, pm, b, rfl, Nat.le_trans hz HP.out, Nat.le_trans hz HB.out, HM.out, ((Nx.refl w).alloc _).trans HN.out⟩
  obtain ⟨p, pm, b, rfl, hp, hb, hm, hn⟩ := hcut
  obtain ⟨w1, hw1⟩ : ∃ x, x = wc := ⟨_, rfl⟩
  subst hw1
  have HP := Lib.hid hp
  have HB := Lib.hid hb
  have HM := Lib.hid hm
  have HN := Lib.hid hn
  clear hp hb hm hn CN HC
  have CF : Hid (Calls Tryz.prog 12 #[.pointer (some ⟨p, 0, none⟩)] w1 fun e w' => e = .returned (.tuple #[.agg #[.int .i64 19, .int .i64 10, .int .i64 0, .int .i64 0, .int .i32 5], .int .i64 2, .bool true]) ∧ Nx w1 w') := Lib.hid (by
    have := fetch_any p pm b 2 wakS w1 HM.out
    rw [wak_f.1, wak_f.2] at this
    exact this)
  have CS : Hid (∀ w', Nx w1 w' → Calls Tryz.prog 14 #[.pointer (some ⟨p, 0, none⟩)] w' (RetMach p pm b 6 (.int .i64 0) (stepP wakS) w')) := Lib.hid (fun w' hw => by
    have := step_any p pm b 2 wakS (by omega) w' (HM.out.nx hw)
    rw [wak_o] at this
    exact this)
  go_upto_region 4 with fail
  go_cut [2, 3, 4] from 15 to 20 (fun iv nv ov wx => ∃ q, iv = .pointer (some ⟨q, 0, none⟩) ∧ nv = .int .i64 2 ∧ ov = .bool true ∧ Has wx q (.cells #[.int .i64 19, .int .i64 10, .int .i64 0, .int .i64 0, .int .i32 5] 35) ∧ Nx w1 wx ∧ w1.heap.size ≤ q)
  case first =>
    go_wp2_with (go_at_call 12; refine CF.out.mono ?_; rintro e w2 ⟨rfl, hn1⟩; have HN1 := Lib.hid hn1; clear hn1)
    go_meet
    case rel => exact ⟨w2.heap.size, rfl, rfl, rfl, Has.new _ _, HN1.out.alloc _, HN1.out.size⟩
  obtain ⟨q, rfl, rfl, rfl, hq, hnx, hwq⟩ := hcut
  obtain ⟨w2, hw2⟩ : ∃ x, x = wc := ⟨_, rfl⟩
  subst hw2
  have HQ := Lib.hid hq
  have HX := Lib.hid hnx
  have hbl := HM.out.mem.2.lt
  have hpl := HM.out.has.lt
  have hqp : q ≠ p := by omega
  have hqb : q ≠ b := by omega
  clear hq hnx hwq hbl hpl CF
  go_upto_region 5 with fail
  go_cut [5] from 21 to 22 (fun v wx => v = .int .i64 0 ∧ MachAt wx p pm b 6 (stepP wakS) ∧ Has wx q (.cells #[.int .i64 19, .int .i64 10, .int .i64 0, .int .i64 0, .int .i32 5] 35) ∧ Nx w wx)
  case first =>
    go_wp2_with (go_at_call 14; refine (CS.out _ HX.out).mono ?_; rintro e w3 ⟨rfl, hm3, hc3⟩; have HM3 := Lib.hid hm3; have HC3 := Lib.hid hc3; clear hm3 hc3)
    go_meet
    case rel => exact ⟨rfl, HM3.out, MachAt.chg_ins HQ.out HC3.out hqp hqb, Chg.nx HC3.out (HN.out.trans HX.out) HP.out HB.out⟩
  obtain ⟨rfl, hm3, hq3, hn3⟩ := hcut
  obtain ⟨w3, hw3⟩ : ∃ x, x = wc := ⟨_, rfl⟩
  subst hw3
  have HM3 := Lib.hid hm3
  have HQ3 := Lib.hid hq3
  have HN3 := Lib.hid hn3
  clear hm3 hq3 hn3 CS HQ HX HM HN
  have CT := Lib.hid (state_mach p pm b 6 (stepP wakS) (by omega) w3 HM3.out)
  go_upto_region 6 with fail
  go_cut [6] from 23 to 24 (fun v wx => ∃ g, v = .pointer (some ⟨g, 0, none⟩) ∧ wx.cell? ⟨g, 10, none⟩ = some (.int .u32 5) ∧ wx.cell? ⟨g, 0, none⟩ = some (.int .u32 0) ∧ wx.cell? ⟨g, 32, none⟩ = some (.int .u32 2) ∧ Nx w3 wx)
  case first =>
    have CT2 : Hid (Calls Tryz.prog 11 #[.pointer (some ⟨p, 0, none⟩)] w3 fun e w' => ∃ A' k c', e = .returned (.agg (List.toArray [.int .u32 0, .int .u32 0, .int .u32 0, .int .u32 0, .int .u32 0, .int .u32 0, .int .u32 0, .int .u32 0, .int .u32 0, .int .u32 0, .int .u32 5, .int .u32 0, .int .u32 0, .int .u32 0, .int .u32 0, .int .u32 0, .int .u32 0, .int .u32 0, .int .u32 0, .int .u32 0, .int .u32 0, .int .u32 0, .int .u32 0, .int .u32 0, .int .u32 0, .int .u32 0, .int .u32 0, .int .u32 0, .int .u32 0, .int .u32 0, .int .u32 0, .int .u32 0, .int .u32 2, .slice A' k c'])) ∧ Nx w3 w') := Lib.hid (CT.out.mono fun e w' hh => by
      obtain ⟨v, L, rfl, _, _, hv, hn⟩ := hh
      obtain ⟨A', c', rfl, _⟩ := hv.form
      rw [wak_s.1, wak_s.2]
      exact ⟨_, _, _, rfl, hn⟩)
    clear CT
    refine wp_region_lit ?_
    refine wpList_plain rfl fun K hK => ?_
    go_simp
    refine hK _ _ ?_
    clear hK K
    try simp only [Act.put, List.setIfInBounds_toArray, List.set_cons_zero, List.set_cons_succ]
    refine wpList_plain rfl fun K hK => ?_
    go_simp
    refine CT2.out.mono ?_
    rintro e w4 ⟨A', k, c', rfl, hn4⟩
    have HN4 := Lib.hid hn4
    clear hn4
    refine hK _ _ ?_
    clear hK K
    try simp only [Act.put, List.setIfInBounds_toArray, List.set_cons_zero, List.set_cons_succ]
    refine wpList_plain rfl fun K hK => ?_
    go_simp
    refine hK _ _ ?_
    clear hK K
    try simp only [Act.put, List.setIfInBounds_toArray, List.set_cons_zero, List.set_cons_succ]
    refine wpList_store_mid (cells := List.toArray _) rfl _ _ _ rfl w4.heap.size 0 rfl rfl (st_there w4 _ 26 rfl (Nx.refl _)) st_info ?_ ?_
    · simp [Value.oneCell']
    try simp only [Act.put, List.setIfInBounds_toArray, List.set_cons_zero, List.set_cons_succ]
    refine wpList_nil ?_
    go_wp2_with fail
    go_meet
    case rel =>
      have hr := World.rangeAt_setCells_same _ w4.heap.size 0 ([.int .u32 0, .int .u32 0, .int .u32 0, .int .u32 0, .int .u32 0, .int .u32 0, .int .u32 0, .int .u32 0, .int .u32 0, .int .u32 0, .int .u32 5, .int .u32 0, .int .u32 0, .int .u32 0, .int .u32 0, .int .u32 0, .int .u32 0, .int .u32 0, .int .u32 0, .int .u32 0, .int .u32 0, .int .u32 0, .int .u32 0, .int .u32 0, .int .u32 0, .int .u32 0, .int .u32 0, .int .u32 0, .int .u32 0, .int .u32 0, .int .u32 0, .int .u32 0, .int .u32 2, .slice A' k c'] : List Value) (st_there w4 #[.int .u32 0, .int .u32 0, .int .u32 0, .int .u32 0, .int .u32 0, .int .u32 0, .int .u32 0, .int .u32 0, .int .u32 0, .int .u32 0, .int .u32 0, .int .u32 0, .int .u32 0, .int .u32 0, .int .u32 0, .int .u32 0, .int .u32 0, .int .u32 0, .int .u32 0, .int .u32 0, .int .u32 0, .int .u32 0, .int .u32 0, .int .u32 0, .int .u32 0, .int .u32 0, .int .u32 0, .int .u32 0, .int .u32 0, .int .u32 0, .int .u32 0, .int .u32 0, .int .u32 0, .slice none 0 0] 26 rfl (Nx.refl _))
      exact ⟨w4.heap.size, rfl, hr 10 _ rfl, hr 0 _ rfl, hr 32 _ rfl, HN4.out.trans (nx_setCells _ (Nat.le_refl _) _ _ _ ((Nx.refl w4).alloc _))⟩
  obtain ⟨g, rfl, g10, g0, g32, hn5⟩ := hcut
  obtain ⟨w5, hw5⟩ : ∃ x, x = wc := ⟨_, rfl⟩
  subst hw5
  have HN5 := Lib.hid (HN3.out.trans hn5)
  have CS : Hid (Calls Tryz.prog 14 #[.pointer (some ⟨p, 0, none⟩)] w5 (RetMach p pm b 10 (.int .i64 3) (stepP (stepP wakS)) w5)) := Lib.hid (by
    have := step_any p pm b 6 (stepP wakS) (by omega) w5 (HM3.out.nx hn5)
    rw [wak_o2] at this
    exact this)
  have q0 := (HQ3.out.nx hn5).cell 0 _ rfl
  have q1 := (HQ3.out.nx hn5).cell 1 _ rfl
  have q2 := (HQ3.out.nx hn5).cell 2 _ rfl
  have q3 := (HQ3.out.nx hn5).cell 3 _ rfl
  have q4 := (HQ3.out.nx hn5).cell 4 _ rfl
  clear hn5 CT
  go_wp2_with (go_at_call 14; refine CS.out.mono ?_; rintro e w6 ⟨rfl, hm6, hc6⟩; have HC6 := Lib.hid hc6; clear hm6 hc6)
  go_ret
  exact ⟨rfl, Chg.nx HC6.out HN5.out HP.out HB.out⟩

end Go.Proofs.YtndpgakjpokllaaGreat

/- law07: what the walks share. -/
namespace Go.Proofs.YtndpgakjpokllaaGreat
open Go.RowKit
set_option linter.unusedVariables false
set_option linter.unusedSimpArgs false
set_option maxRecDepth 100000

theorem range_all {w : World} {g : Nat} {cs : List Value} {T : TypeId} (h : Has w g (.cells cs.toArray T)) : w.rangeAt g 0 cs := fun j v hv => by
  rw [Nat.zero_add]
  exact h.cell j v (by rw [List.getElem?_toArray]; exact hv)

/-- What is read of the state that is handed over. -/
theorem st_box {w : World} {rg : List Int} {pc : Int} {v : Value} (h : rg.length = 32) {w' : World} (hn : Nx (w.alloc (.cells (machC rg pc v) 26)) w') :
    w'.cell? ⟨w.heap.size, 33, none⟩ = some v := ((Has.new w (.cells (machC rg pc v) 26)).nx hn).cell 33 _ (machC_ptr h pc v)

/-- Both machines, one state. -/
def Both (W : World) (mv rv : Value) (n : Nat) (s : MSt) (wx : World) : Prop :=
  ∃ p pm b base q qm, mv = .pointer (some ⟨p, 0, none⟩) ∧ rv = .pointer (some ⟨q, 0, none⟩) ∧ W.heap.size ≤ p ∧ W.heap.size ≤ b ∧ p < base ∧ pm < base ∧ b < base ∧ MachAt wx p pm b n s ∧ Ref7At wx base q qm n s ∧ Nx W wx

end Go.Proofs.YtndpgakjpokllaaGreat

