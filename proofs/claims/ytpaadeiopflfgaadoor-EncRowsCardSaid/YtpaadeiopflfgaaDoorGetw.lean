/- Contracts of package enc: a word's instruction. -/
import Derived.Test.YtpaadeiopflfgaaDoorDece
namespace Go.Proofs.YtpaadeiopflfgaaDoor
open Go.RowKit
set_option linter.unusedVariables false
set_option linter.unusedSimpArgs false

def insV (i : In5) : Value := .agg #[.int .i64 i.op, .int .i64 i.rd, .int .i64 i.rs1, .int .i64 i.rs2, .int .i32 i.imm]

def gotF (f op x : Int) : In5 := ⟨op, if needD f = true then fld x 7 5 else 0, if needS f = true then fld x 15 5 else 0, if needT f = true then fld x 20 5 else 0, numG f x⟩

theorem rows_some (w : World) : Calls Tryd.prog 14 #[] w fun e w' => ∃ g, e = .returned (.slice (some ⟨g, 0, none⟩) 48 48) ∧ RowsAt w' g ∧ Nx w w' :=
  (rows_any w).mono fun e w' h => ⟨_, h.1, h.2.1, h.2.2⟩

theorem number_lit (f : Int) (hf : 0 ≤ f) (hf' : f ≤ 9) (x : Int) (w : World) (hx : 0 ≤ x) (hx' : x < 4294967296) (hP : Places w) :
    Calls Tryd.prog 35 #[.int .i64 f, .int .u32 x] w fun e w' => e = .returned (.int .i32 (numG f x)) ∧ Nx w w' := by
  obtain ⟨n, rfl⟩ := Int.eq_ofNat_of_zero_le hf
  exact number_any n x w hx hx' (by omega) hP

/-- What Get gives. -/
def GotR (w : World) (x : Int) (e : Ending) (w' : World) : Prop :=
  (∃ k, k < 48 ∧ fitR x k = true ∧ e = .returned (.tuple #[insV (gotF (formN ((k : Int) + 1)) ((k : Int) + 1) x), .bool true]) ∧ Nx w w') ∨
  ((∀ j, j < 48 → fitR x j = false) ∧ e = .returned (.tuple #[insV none5, .bool false]) ∧ Nx w w')

theorem box_cell {w w2 : World} {T : TypeId} {a : Value} {o : Obj} (h : Nx ((w.alloc (.cells #[a] T)).alloc o) w2) : w2.cell? ⟨w.heap.size, 0, none⟩ = some a := by
  have h1 : (w.alloc (.cells #[a] T)).cell? ⟨w.heap.size, 0, none⟩ = some a := by simp
  exact h.cell (((Nx.refl _).alloc o).cell h1)

theorem five_second {w w2 : World} {T T2 : TypeId} {x a b c d e : Value} (h : Nx ((w.alloc (.cells #[x] T2)).alloc (.cells #[a, b, c, d, e] T)) w2) :
    w2.cell? ⟨w.heap.size + 1, 0, none⟩ = some a ∧ w2.cell? ⟨w.heap.size + 1, 1, none⟩ = some b ∧ w2.cell? ⟨w.heap.size + 1, 2, none⟩ = some c ∧ w2.cell? ⟨w.heap.size + 1, 3, none⟩ = some d ∧ w2.cell? ⟨w.heap.size + 1, 4, none⟩ = some e ∧
    w2.frozen? ⟨w.heap.size + 1, 0, none⟩ = false ∧ w2.frozen? ⟨w.heap.size + 1, 1, none⟩ = false ∧ w2.frozen? ⟨w.heap.size + 1, 2, none⟩ = false ∧ w2.frozen? ⟨w.heap.size + 1, 3, none⟩ = false ∧ w2.frozen? ⟨w.heap.size + 1, 4, none⟩ = false ∧ w.heap.size + 1 < w2.heap.size := by
  have := five_cells h
  have e1 : (w.alloc (.cells #[x] T2)).heap.size = w.heap.size + 1 := by simp
  rw [e1] at this
  exact this

set_option maxHeartbeats 2000000 in
theorem get_any (x : Int) (w : World) (hx : 0 ≤ x) (hx' : x < 4294967296) (hP : Places w) :
    Calls Tryd.prog 12 #[.int .u32 x] w (GotR w x) := by
  have HP := Lib.hid hP
  clear hP
  go_enter Tryd.func12, Tryd.ntmps12
  go_wp2_with fail
  refine (rows_some _).mono ?_
  rintro e w2 ⟨g, rfl, hr2, hn2⟩
  have HR2 := Lib.hid hr2
  clear hr2
  have cx := box_cell hn2
  go_wp2_with fail
  refine (find_get x _ g w2 cx HR2.out).mono ?_
  rintro e w3 hfound
  rcases hfound with ⟨k, hk, hp, hq, rfl, hn3⟩ | ⟨hno, rfl, hn3⟩
  · have hn4 := hn2.trans hn3
    have cx3 := box_cell hn4
    obtain ⟨c0, c1, c2, c3, c4, z0, z1, z2, z3, z4, hz⟩ := five_second hn4
    have HN4 := Lib.hid ((((Nx.refl w).alloc _).alloc _).trans hn4)
    have HF : Hid (fitR x k = true) := hp
    have hk1 : (0 : Int) ≤ k + 1 := by omega
    have hzz : w.heap.size < w3.heap.size := by omega
    have hzA : w.heap.size ≤ w.heap.size + 1 := by omega
    have hzB : w.heap.size ≤ w3.heap.size + 1 := by omega
    clear hq hp cx HR2 hn2 hn3 hn4
    have hr := formN_range ((k : Int) + 1)
    have a7 := fld_nonneg x 7 5
    have b7 : fld x 7 5 < 32 := fld_lt x 7 5
    have a15 := fld_nonneg x 15 5
    have b15 : fld x 15 5 < 32 := fld_lt x 15 5
    have a20 := fld_nonneg x 20 5
    have b20 : fld x 20 5 < 32 := fld_lt x 20 5
    have HG : Hid (∀ f, formN ((k : Int) + 1) = f → gotF (formN ((k : Int) + 1)) ((k : Int) + 1) x = gotF f ((k : Int) + 1) x) := fun f h => by rw [h]
    rcases hr with hf | hf | hf | hf | hf | hf | hf | hf | hf | hf
    all_goals
      have HG' := Lib.hid (HG.out _ hf)
      clear HG
      go_wp2_with (first | (go_at_call 19; refine (formOf_any _ _).mono ?_; rintro e w' ⟨rfl, rfl⟩) | (go_at_call 20; refine (field_in _ _ _ _ hx hx' (by omega) (by omega) (by omega) (by omega)).mono ?_; rintro e w' ⟨rfl, rfl⟩) | (go_at_call 35; refine (number_lit _ (by omega) (by omega) x _ hx hx' (HP.out.keep ((HN4.out.alloc _).alloc _))).mono ?_; rintro e w4 ⟨rfl, hn5⟩; obtain ⟨r1, r2⟩ := nx_cells hn5; have hs5 := hn5.size; have hn6 := (((Nx.refl w3).alloc _).alloc _).trans hn5; have d0 := hn6.cell c0; have d1 := hn6.cell c1; have d2 := hn6.cell c2; have d3 := hn6.cell c3; have d4 := hn6.cell c4))
      refine bodyPost_ret (v := .tuple #[insV (gotF (formN ((k : Int) + 1)) ((k : Int) + 1) x), .bool true]) (by simp [results, Tryd.results12, go_sem, insV, gotF, hf, needD, needS, needT, d0, d1, d2, d3, d4]) rfl (Or.inl ⟨k, hk, HF.out, rfl, ?_⟩)
      repeat (with_reducible first | refine Nx.setCell ?_ hzA _ | refine Nx.setCell ?_ hzB _)
      refine Nx.trans ?_ hn5
      repeat (with_reducible first | refine Nx.alloc ?_ _)
      exact HN4.out
  · have hn4 := hn2.trans hn3
    obtain ⟨c0, c1, c2, c3, c4, z0, z1, z2, z3, z4, hz⟩ := five_second hn4
    have HN4 := Lib.hid ((((Nx.refl w).alloc _).alloc _).trans hn4)
    have HO := Lib.hid hno
    clear hno
    go_wp2
    refine bodyPost_ret (v := .tuple #[insV none5, .bool false]) (by simp [results, Tryd.results12, go_sem, insV, none5, c0, c1, c2, c3, c4, hz]) rfl (Or.inr ⟨HO.out, rfl, ?_⟩)
    repeat (with_reducible first | refine Nx.setCell ?_ (Nat.le_succ _) _ | refine Nx.alloc ?_ _)
    exact HN4.out

theorem got_parts (x op : Int) (h0 : (decP x).op ≠ 0) (hop : (decP x).op = op) (h1 : 1 ≤ formN op) (h2 : formN op ≤ 9) : gotF (formN op) op x = decP x := by
  have h := dec_parts x h0
  rw [h, hop]
  unfold gotF partsF
  rw [fld75, fld155, fld205, numG_eq _ x h1 h2]

/-- Get: the instruction of a word, or none. -/
theorem get_got (x : Int) (w : World) (hx : 0 ≤ x) (hx' : x < 4294967296) (hP : Places w) :
    Calls Tryd.prog 12 #[.int .u32 x] w fun e w' => e = .returned (.tuple #[insV (getI x), .bool (getB x)]) ∧ Nx w w' := by
  refine (get_any x w hx hx' hP).mono ?_
  rintro e w' (⟨k, hk, hf, rfl, hn⟩ | ⟨hno, rfl, hn⟩)
  · obtain ⟨h1, h2⟩ := fit_dec x hx hx' k hk hf
    have hr := formN_range ((k : Int) + 1)
    have hz : formN ((k : Int) + 1) ≠ 0 := by
      have : ∀ j : Fin 48, formN ((j.val : Int) + 1) ≠ 0 := by decide
      exact this ⟨k, hk⟩
    have e1 : getI x = gotF (formN ((k : Int) + 1)) ((k : Int) + 1) x := by
      rw [got_parts x _ (by omega) h1 (by omega) (by omega)]; unfold getI; rw [if_pos h2]
    rw [e1, h2]; exact ⟨rfl, hn⟩
  · have h2 : getB x = false := by
      cases h : getB x
      · rfl
      · obtain ⟨j, hj, hf⟩ := dec_fit x hx hx' h
        rw [hno j hj] at hf; cases hf
    have e1 : getI x = none5 := by unfold getI; rw [if_neg (by rw [h2]; decide)]
    rw [e1, h2]; exact ⟨rfl, hn⟩

end Go.Proofs.YtpaadeiopflfgaaDoor
