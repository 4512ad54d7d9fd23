/- Contracts of package macro: Head. -/
import Derived.Test.YtbkgdepblaibkaaDoorMadd
namespace Go.Proofs.YtbkgdepblaibkaaDoor
open Go.RowKit
set_option linter.unusedVariables false
set_option linter.unusedSimpArgs false

/-- A head's reader's place. -/
def atOf (w : World) (g : Nat) : Nat := match w.cell? ⟨g, 1, none⟩ with
  | some (.int _ n) => n.toNat
  | _ => 0

/-- What grows less from step to step. -/
def headM (N g : Nat) (nv : Value) (w : World) : Nat := match nv with
  | .func (.func f) _ _ => if f = 48 then 2 * N + 10 else if f = 69 then 2 * (N + 2 - atOf w g) + 1 else 2 * (N + 2 - atOf w g)
  | _ => 0

theorem atOf_is {w : World} {g i : Nat} {lv pv : Value} {name : List UInt8} (h : Has w g (hdO lv i name pv)) : atOf w g = i := by
  unfold atOf
  rw [h.cell 1 _ rfl]
  simp

theorem headM_nil (N g : Nat) (w : World) : headM N g .nilFunc w = 0 := rfl

theorem headM_name (N g : Nat) (w : World) : headM N g (bound 48 g) w = 2 * N + 10 := rfl

theorem headM_param (N g : Nat) (w : World) : headM N g (bound 69 g) w = 2 * (N + 2 - atOf w g) + 1 := rfl

theorem headM_preset (N g : Nat) (w : World) : headM N g (bound 77 g) w = 2 * (N + 2 - atOf w g) := rfl

theorem FaultIs.far {w : World} {g o : Nat} {a b c : Int} (h : FaultIs w (.iface 77 (.pointer (some ⟨g, o, none⟩))) a b c) {p : Addr} (hp : p.block ≠ g) (u : Value) : FaultIs (w.setCell p u) (.iface 77 (.pointer (some ⟨g, o, none⟩))) a b c := by
  obtain ⟨g', o', he, h1, h2, h3⟩ := h
  cases he
  exact ⟨g, o, rfl, (World.cell?_setCell_far w p _ u hp).trans h1, (World.cell?_setCell_far w p _ u hp).trans h2, (World.cell?_setCell_far w p _ u hp).trans h3⟩

theorem FaultIs.apart {w : World} {g o r : Nat} {a b c : Int} {s : ByteArray} {A A' : Option Addr} {n n' k k' : Nat} {T : TypeId} (h : FaultIs w (.iface 77 (.pointer (some ⟨g, o, none⟩))) a b c) (hr : Has w r (.cells #[.string s, .slice A n k, .slice A' n' k'] T)) : r ≠ g := by
  rintro rfl
  obtain ⟨g', o', he, h1, _, _⟩ := h
  cases he
  rw [cell_of_row w r o _ _ _ hr] at h1
  match o, h1 with
  | 0, h1 => cases h1
  | 1, h1 => cases h1
  | 2, h1 => cases h1
  | k + 3, h1 => simp at h1

/-- Parameters, and their defaults. -/
def ParsQ (w : World) (v : Value) (qs : List (PPar × Value)) : Prop := Pars w v qs ∧ ∀ q ∈ qs, Toks w q.2 q.1.dflt

theorem ParsQ.nx {w w' : World} {v : Value} {qs : List (PPar × Value)} (h : ParsQ w v qs) (hn : Nx w w') : ParsQ w' v qs := ⟨h.1.nx hn, fun q hq => (h.2 q hq).nx hn⟩

theorem OwnQ.parsQ {w : World} {base : Nat} {v : Value} {qs : List (PPar × Value)} (h : OwnQ w base v qs) : ParsQ w v qs := ⟨h.pars, fun q hq => (h.2 q hq).1⟩

/-- What comes of a head. -/
def RetHead (V : HRes) (w : World) (e : Ending) (w' : World) : Prop :=
  ∃ name pv qs ev, e = .returned (.tuple #[.agg #[.string (B name), pv, .slice none 0 0], ev]) ∧ Nx w w' ∧
    ((V = .ok name (qs.map (·.1)) ∧ ev = .nilIface ∧ ParsQ w' pv qs ∧ qs.length ≤ 100000001) ∨ (∃ a b c, V = .bad a b c ∧ name = [] ∧ pv = .slice none 0 0 ∧ qs = [] ∧ FaultIs w' ev a b c ∧ 1 ≤ c ∧ c ≤ 16))

/-- What holds at a round's head. -/
def HeadRel (l : List Tok) (lv : Value) (g : Nat) (w0 wr : World) (V : HRes) (nv : Value) : Prop :=
  Nx w0 wr ∧ ∃ i name pv qs, Has wr g (hdO lv i name pv) ∧ OwnQ wr (g + 1) pv qs ∧ i ≤ l.length + 1 ∧ qs.length ≤ i ∧
    ((nv = .nilFunc ∧ V = .ok name (qs.map (·.1))) ∨
     (nv = bound 48 g ∧ i = 1 ∧ name = [] ∧ pv = .slice none 0 0 ∧ qs = [] ∧ headP l = V) ∨
     (nv = bound 69 g ∧ 2 ≤ i ∧ i ≤ l.length ∧ parT l name i (qs.map (·.1)) = V) ∨
     (nv = bound 77 g ∧ 2 ≤ i ∧ i ≤ l.length ∧ ∃ ps0 t, qs.map (·.1) = ps0 ++ [⟨t, false, []⟩] ∧ preT l name i ps0 t = V))

theorem map_last (qs : List (PPar × Value)) (ps0 : List PPar) (p : PPar) (h : qs.map (·.1) = ps0 ++ [p]) : ∃ qs0 u, qs = qs0 ++ [(p, u)] ∧ qs0.map (·.1) = ps0 := by
  obtain ⟨a, b, h1, h2, h3⟩ := List.map_eq_append_iff.1 h
  match b, h3 with
  | [q], h3 =>
    simp at h3
    subst h3
    exact ⟨a, q.2, h1, h2⟩

set_option maxHeartbeats 4000000 in
set_option maxRecDepth 100000 in
theorem head_any (v : Value) (l : List Tok) (w : World) (hE : ErrT w) (hT : Toks w v l) (hl : l.length ≤ 100000000) : Calls Tryd.prog 27 #[v] w (RetHead (headP l) w) := by
  obtain ⟨A, c, rfl, hc1, hc2, hA⟩ := hT.form
  have HE := Lib.hid hE
  obtain ⟨V, hV⟩ : ∃ V, headP l = V := ⟨_, rfl⟩
  rw [hV]
  have HV := Lib.hid hV
  obtain ⟨w0, hw0⟩ : ∃ w0, w.alloc (.cells #[.string ({ data := #[] } : ByteArray), .slice none 0 0, .slice none 0 0] 44) = w0 := ⟨_, rfl⟩
  have hs0 : w0.heap.size = w.heap.size + 1 := by rw [← hw0]; simp
  have HX0 := Lib.hid (show Nx w w0 from hw0 ▸ (Nx.refl w).alloc _)
  have HR0 := Lib.hid (show Has w0 w.heap.size (.cells #[.string (B []), .slice none 0 0, .slice none 0 0] 44) from hw0 ▸ Has.new w _)
  have HT := Lib.hid (hT.nx HX0.out)
  have HG := Lib.hid (show w0.heap.size ≤ w.heap.size + 1 by omega)
  have HH0 := Lib.hid (show Has (w0.alloc (hdO (.slice A l.length c) 1 [] (.slice none 0 0))) (w.heap.size + 1) (hdO (.slice A l.length c) 1 [] (.slice none 0 0)) from Has.at_ w0 _ hs0.symm)
  have hne : ∀ (fn : Fn) (first cap : Array Value) (w : World), (binOp .neq 93 (.func fn first cap) .nilFunc).run Tryd.prog w = .ok (.bool true) w := fun _ _ _ _ => rfl
  have hnn : ∀ (w : World), (binOp .neq 93 .nilFunc .nilFunc).run Tryd.prog w = .ok (.bool false) w := fun _ => rfl
  clear hT hE hA hV
  go_enter Tryd.func27, Tryd.ntmps27
  go_wp2
  go_loopw [5] (fun nv wr => HeadRel l (.slice A l.length c) (w.heap.size + 1) w0 wr V nv) (fun nv wr => headM l.length (w.heap.size + 1) nv wr)
  case atStart => exact ⟨(Nx.refl w0).alloc _, 1, [], _, [], HH0.out, ⟨OwnC.nil _ _ _ _, fun q h => by cases h⟩, by omega, Nat.zero_le _, Or.inr (Or.inl ⟨rfl, rfl, rfl, rfl, rfl, HV.out⟩)⟩
  case round =>
    obtain ⟨hnx, i, name, pv, qs, hH, hQ, hi, hqi, hcase⟩ := hrel
    have HNX := Lib.hid hnx
    have HH := Lib.hid hH
    have HQ := Lib.hid hQ
    have HA := Lib.hid (atOf_is hH)
    have HQI := Lib.hid hqi
    clear hnx hH hQ hqi hw0
    rcases hcase with ⟨rfl, hVok⟩ | ⟨rfl, rfl, rfl, rfl, rfl, hVn⟩ | ⟨rfl, hi2, hil, hVp⟩ | ⟨rfl, hi2, hil, ps0, t, hps, hVp⟩
    · obtain ⟨Ap, cp, hpv⟩ := HQ.out.form
      subst hpv
      have HVO := Lib.hid hVok
      have hr := HR0.out.nx HNX.out
      have r0 : wr.cell? ⟨w.heap.size, 0, none⟩ = some (.string (B [])) := hr.cell 0 _ rfl
      have r1 : wr.cell? ⟨w.heap.size, 1, none⟩ = some (.slice none 0 0) := hr.cell 1 _ rfl
      have r2 : wr.cell? ⟨w.heap.size, 2, none⟩ = some (.slice none 0 0) := hr.cell 2 _ rfl
      have f0 := hr.free 0
      have f1 := hr.free 1
      have f2 := hr.free 2
      have zr := hr.lt
      have h2 : wr.cell? ⟨w.heap.size + 1, 2, none⟩ = some (.string (B name)) := HH.out.cell 2 _ rfl
      have h3 : wr.cell? ⟨w.heap.size + 1, 3, none⟩ = some (.slice Ap qs.length cp) := HH.out.cell 3 _ rfl
      have h4 : wr.cell? ⟨w.heap.size + 1, 4, none⟩ = some (.slice none 0 0) := HH.out.cell 4 _ rfl
      have zg := HH.out.lt
      clear hr hVok hne
      go_wp2
      refine bodyPost_ret (v := .tuple #[.agg #[.string (B name), .slice Ap qs.length cp, .slice none 0 0], .nilIface]) (by simp [results, Tryd.results27, go_sem, r0, r1, r2, f0, f1, f2]) rfl ?_
      exact ⟨name, _, qs, _, rfl, by repeat (with_reducible first | exact HX0.out.trans HNX.out | refine Nx.drew ?_ | refine Nx.setCell ?_ (Nat.le_refl _) _), Or.inl ⟨HVO.out, rfl, OwnQ.parsQ (base := w.heap.size + 1 + 1) (by repeat (with_reducible first | exact HQ.out | refine OwnQ.set_ ?_ (by show w.heap.size < _; omega) _)), by have := HQI.out; omega⟩⟩
    · have HVN := Lib.hid hVn
      clear hVn
      go_wp2_with fail
      refine (hname_any (w.heap.size + 1) _ l w0 _ HNX.out HG.out HH.out HT.out hl).mono ?_
      rintro e w2 ⟨hn2, ⟨ev, fa, fb, fc, rfl, hVb, hF, hc1', hc2'⟩ | ⟨nv2, i2, name2, pv2, qs2, rfl, hH2, hQ2, hi2, hqi2, hnx2⟩⟩
      · have hF' := hF
        obtain ⟨g3, o3, rfl, _⟩ := hF
        have HF := Lib.hid hF'
        have HN2 := Lib.hid hn2
        have HVB := Lib.hid hVb
        have HC := Lib.hid (And.intro hc1' hc2')
        clear hn2 hF' hVb hc1' hc2' hne hnn
        go_wp2_with fail
        refine (as_fault ⟨g3, o3, none⟩ ⟨w2.heap.size, 0, none⟩ (.pointer none) _ (HE.out.nx ((HX0.out.trans HN2.out).alloc _)) (by simp) (by simp)).mono ?_
        rintro e w4 ⟨rfl, W3, hW3, hw4⟩
        have HN4 := Lib.hid (show Nx w0 w4 from hw4 ▸ set_nx hW3 (HN2.out.alloc _) HN2.out.size _)
        have c4 : w4.cell? ⟨w2.heap.size, 0, none⟩ = some (.pointer (some ⟨g3, o3, none⟩)) := hw4 ▸ set_same (v := .pointer none) hW3 (by simp) _
        have HF4 := Lib.hid (HF.out.nx (show Nx w2 w4 from hw4 ▸ set_nx hW3 ((Nx.refl w2).alloc _) (Nat.le_refl _) _))
        have hr := HR0.out.nx HN4.out
        have HNE := Lib.hid (HF4.out.apart hr)
        have r0 : w4.cell? ⟨w.heap.size, 0, none⟩ = some (.string (B [])) := hr.cell 0 _ rfl
        have r1 : w4.cell? ⟨w.heap.size, 1, none⟩ = some (.slice none 0 0) := hr.cell 1 _ rfl
        have r2 : w4.cell? ⟨w.heap.size, 2, none⟩ = some (.slice none 0 0) := hr.cell 2 _ rfl
        have f0 := hr.free 0
        have f1 := hr.free 1
        have f2 := hr.free 2
        have zr := hr.lt
        have z2 : ¬ w2.heap.size = w.heap.size := by have := HN2.out.size; have := hs0; omega
        have z2' : ¬ w.heap.size = w2.heap.size := by omega
        clear hw4 hW3 hr
        go_wp2
        go_region
        all_goals go_wp2
        all_goals
          refine bodyPost_ret (v := .tuple #[.agg #[.string (B []), .slice none 0 0, .slice none 0 0], .iface 77 (.pointer (some ⟨g3, o3, none⟩))]) (by simp [results, Tryd.results27, go_sem, r0, r1, r2, f0, f1, f2]) rfl ?_
          exact ⟨[], _, [], _, rfl, by repeat (with_reducible first | exact HX0.out.trans HN4.out | refine Nx.drew ?_ | refine Nx.setCell ?_ (Nat.le_refl _) _), Or.inr ⟨fa, fb, fc, HVN.out ▸ HVB.out, rfl, rfl, rfl, by repeat (with_reducible first | exact HF4.out | refine FaultIs.nx ?_ ((Nx.refl _).drew) | refine FaultIs.far ?_ HNE.out _), HC.out.1, HC.out.2⟩⟩
      · have HN2 := Lib.hid hn2
        have HH2 := Lib.hid hH2
        have HQ2 := Lib.hid hQ2
        have HNX2 := Lib.hid hnx2
        clear hn2 hH2 hQ2 hnx2 hnn
        go_wp2
        go_roundw
        case rel =>
          refine ⟨HN2.out, i2, name2, pv2, qs2, HH2.out, HQ2.out, hi2, hqi2, ?_⟩
          rcases HNX2.out with ⟨hps, ⟨rfl, h⟩ | ⟨rfl, rfl, h0, h⟩⟩
          · exact Or.inl ⟨rfl, by rw [hps, ← HVN.out]; exact h⟩
          · exact Or.inr (Or.inr (Or.inl ⟨rfl, Nat.le_refl _, h0, by rw [hps, ← HVN.out]; exact h⟩))
        case measure =>
          rcases HNX2.out with ⟨_, ⟨rfl, _⟩ | ⟨rfl, rfl, _, _⟩⟩
          · rw [headM_nil, headM_name]; omega
          · rw [headM_param, headM_name, atOf_is HH2.out]; omega
    · have HVN := Lib.hid hVp
      clear hVp
      go_wp2_with fail
      refine (hparam_any (w.heap.size + 1) i name pv qs _ l w0 _ HNX.out HG.out HH.out HQ.out HT.out hl hil HQI.out).mono ?_
      rintro e w2 ⟨hn2, ⟨ev, fa, fb, fc, rfl, hVb, hF, hc1', hc2'⟩ | ⟨nv2, i2, name2, pv2, qs2, rfl, hH2, hQ2, hi2, hqi2, hnx2⟩⟩
      · have hF' := hF
        obtain ⟨g3, o3, rfl, _⟩ := hF
        have HF := Lib.hid hF'
        have HN2 := Lib.hid hn2
        have HVB := Lib.hid hVb
        have HC := Lib.hid (And.intro hc1' hc2')
        clear hn2 hF' hVb hc1' hc2' hne hnn
        go_wp2_with fail
        refine (as_fault ⟨g3, o3, none⟩ ⟨w2.heap.size, 0, none⟩ (.pointer none) _ (HE.out.nx ((HX0.out.trans HN2.out).alloc _)) (by simp) (by simp)).mono ?_
        rintro e w4 ⟨rfl, W3, hW3, hw4⟩
        have HN4 := Lib.hid (show Nx w0 w4 from hw4 ▸ set_nx hW3 (HN2.out.alloc _) HN2.out.size _)
        have c4 : w4.cell? ⟨w2.heap.size, 0, none⟩ = some (.pointer (some ⟨g3, o3, none⟩)) := hw4 ▸ set_same (v := .pointer none) hW3 (by simp) _
        have HF4 := Lib.hid (HF.out.nx (show Nx w2 w4 from hw4 ▸ set_nx hW3 ((Nx.refl w2).alloc _) (Nat.le_refl _) _))
        have hr := HR0.out.nx HN4.out
        have HNE := Lib.hid (HF4.out.apart hr)
        have r0 : w4.cell? ⟨w.heap.size, 0, none⟩ = some (.string (B [])) := hr.cell 0 _ rfl
        have r1 : w4.cell? ⟨w.heap.size, 1, none⟩ = some (.slice none 0 0) := hr.cell 1 _ rfl
        have r2 : w4.cell? ⟨w.heap.size, 2, none⟩ = some (.slice none 0 0) := hr.cell 2 _ rfl
        have f0 := hr.free 0
        have f1 := hr.free 1
        have f2 := hr.free 2
        have zr := hr.lt
        have z2 : ¬ w2.heap.size = w.heap.size := by have := HN2.out.size; have := hs0; omega
        have z2' : ¬ w.heap.size = w2.heap.size := by omega
        clear hw4 hW3 hr
        go_wp2
        go_region
        all_goals go_wp2
        all_goals
          refine bodyPost_ret (v := .tuple #[.agg #[.string (B []), .slice none 0 0, .slice none 0 0], .iface 77 (.pointer (some ⟨g3, o3, none⟩))]) (by simp [results, Tryd.results27, go_sem, r0, r1, r2, f0, f1, f2]) rfl ?_
          exact ⟨[], _, [], _, rfl, by repeat (with_reducible first | exact HX0.out.trans HN4.out | refine Nx.drew ?_ | refine Nx.setCell ?_ (Nat.le_refl _) _), Or.inr ⟨fa, fb, fc, HVN.out ▸ HVB.out, rfl, rfl, rfl, by repeat (with_reducible first | exact HF4.out | refine FaultIs.nx ?_ ((Nx.refl _).drew) | refine FaultIs.far ?_ HNE.out _), HC.out.1, HC.out.2⟩⟩
      · have HN2 := Lib.hid hn2
        have HH2 := Lib.hid hH2
        have HQ2 := Lib.hid hQ2
        have HNX2 := Lib.hid hnx2
        clear hn2 hH2 hQ2 hnx2 hnn
        go_wp2
        go_roundw
        case rel =>
          refine ⟨HN2.out, i2, name2, pv2, qs2, HH2.out, HQ2.out, hi2, hqi2, ?_⟩
          rcases HNX2.out with ⟨rfl, ⟨rfl, h⟩ | ⟨rfl, h1, h2, h3⟩ | ⟨rfl, h1, h2, ps0, t, h3, h4⟩⟩
          · exact Or.inl ⟨rfl, by rw [← HVN.out]; exact h⟩
          · exact Or.inr (Or.inr (Or.inl ⟨rfl, by omega, h2, by rw [← HVN.out]; exact h3⟩))
          · exact Or.inr (Or.inr (Or.inr ⟨rfl, by omega, h2, ps0, t, h3, by rw [← HVN.out]; exact h4⟩))
        case measure =>
          rcases HNX2.out with ⟨_, ⟨rfl, _⟩ | ⟨rfl, h1, h2, _⟩ | ⟨rfl, h1, h2, _⟩⟩
          · rw [headM_nil, headM_param, HA.out]; omega
          · rw [headM_param, headM_param, HA.out, atOf_is HH2.out]; omega
          · rw [headM_preset, headM_param, HA.out, atOf_is HH2.out]; omega
    · obtain ⟨qs0, u, hq0, hps0⟩ := map_last _ _ _ hps
      subst hq0
      rw [← hps0] at hVp
      have HVN := Lib.hid hVp
      clear hVp hps0 hps
      go_wp2_with fail
      refine (hpreset_any (w.heap.size + 1) i name t pv u qs0 _ l w0 _ HNX.out HG.out HH.out HQ.out HT.out hl (by omega) hil (by have := HQI.out; rw [List.length_append, List.length_singleton] at this; exact this)).mono ?_
      rintro e w2 ⟨hn2, ⟨ev, fa, fb, fc, rfl, hVb, hF, hc1', hc2'⟩ | ⟨nv2, i2, name2, pv2, qs2, rfl, hH2, hQ2, hi2, hqi2, hnx2⟩⟩
      · have hF' := hF
        obtain ⟨g3, o3, rfl, _⟩ := hF
        have HF := Lib.hid hF'
        have HN2 := Lib.hid hn2
        have HVB := Lib.hid hVb
        have HC := Lib.hid (And.intro hc1' hc2')
        clear hn2 hF' hVb hc1' hc2' hne hnn
        go_wp2_with fail
        refine (as_fault ⟨g3, o3, none⟩ ⟨w2.heap.size, 0, none⟩ (.pointer none) _ (HE.out.nx ((HX0.out.trans HN2.out).alloc _)) (by simp) (by simp)).mono ?_
        rintro e w4 ⟨rfl, W3, hW3, hw4⟩
        have HN4 := Lib.hid (show Nx w0 w4 from hw4 ▸ set_nx hW3 (HN2.out.alloc _) HN2.out.size _)
        have c4 : w4.cell? ⟨w2.heap.size, 0, none⟩ = some (.pointer (some ⟨g3, o3, none⟩)) := hw4 ▸ set_same (v := .pointer none) hW3 (by simp) _
        have HF4 := Lib.hid (HF.out.nx (show Nx w2 w4 from hw4 ▸ set_nx hW3 ((Nx.refl w2).alloc _) (Nat.le_refl _) _))
        have hr := HR0.out.nx HN4.out
        have HNE := Lib.hid (HF4.out.apart hr)
        have r0 : w4.cell? ⟨w.heap.size, 0, none⟩ = some (.string (B [])) := hr.cell 0 _ rfl
        have r1 : w4.cell? ⟨w.heap.size, 1, none⟩ = some (.slice none 0 0) := hr.cell 1 _ rfl
        have r2 : w4.cell? ⟨w.heap.size, 2, none⟩ = some (.slice none 0 0) := hr.cell 2 _ rfl
        have f0 := hr.free 0
        have f1 := hr.free 1
        have f2 := hr.free 2
        have zr := hr.lt
        have z2 : ¬ w2.heap.size = w.heap.size := by have := HN2.out.size; have := hs0; omega
        have z2' : ¬ w.heap.size = w2.heap.size := by omega
        clear hw4 hW3 hr
        go_wp2
        go_region
        all_goals go_wp2
        all_goals
          refine bodyPost_ret (v := .tuple #[.agg #[.string (B []), .slice none 0 0, .slice none 0 0], .iface 77 (.pointer (some ⟨g3, o3, none⟩))]) (by simp [results, Tryd.results27, go_sem, r0, r1, r2, f0, f1, f2]) rfl ?_
          exact ⟨[], _, [], _, rfl, by repeat (with_reducible first | exact HX0.out.trans HN4.out | refine Nx.drew ?_ | refine Nx.setCell ?_ (Nat.le_refl _) _), Or.inr ⟨fa, fb, fc, HVN.out ▸ HVB.out, rfl, rfl, rfl, by repeat (with_reducible first | exact HF4.out | refine FaultIs.nx ?_ ((Nx.refl _).drew) | refine FaultIs.far ?_ HNE.out _), HC.out.1, HC.out.2⟩⟩
      · have HN2 := Lib.hid hn2
        have HH2 := Lib.hid hH2
        have HQ2 := Lib.hid hQ2
        have HNX2 := Lib.hid hnx2
        clear hn2 hH2 hQ2 hnx2 hnn
        go_wp2
        go_roundw
        case rel =>
          refine ⟨HN2.out, i2, name2, pv2, qs2, HH2.out, HQ2.out, hi2, hqi2, ?_⟩
          rcases HNX2.out with ⟨rfl, ⟨rfl, h⟩ | ⟨rfl, h1, h2, h3⟩ | ⟨rfl, h1, h2, ps0, t, h3, h4⟩⟩
          · exact Or.inl ⟨rfl, by rw [← HVN.out]; exact h⟩
          · exact Or.inr (Or.inr (Or.inl ⟨rfl, by omega, h2, by rw [← HVN.out]; exact h3⟩))
          · exact Or.inr (Or.inr (Or.inr ⟨rfl, by omega, h2, ps0, t, h3, by rw [← HVN.out]; exact h4⟩))
        case measure =>
          rcases HNX2.out with ⟨_, ⟨rfl, _⟩ | ⟨rfl, h1, h2, _⟩ | ⟨rfl, h1, h2, _⟩⟩
          · rw [headM_nil, headM_preset, HA.out]; omega
          · rw [headM_param, headM_preset, HA.out, atOf_is HH2.out]; omega
          · rw [headM_preset, headM_preset, HA.out, atOf_is HH2.out]; omega

end Go.Proofs.YtbkgdepblaibkaaDoor
