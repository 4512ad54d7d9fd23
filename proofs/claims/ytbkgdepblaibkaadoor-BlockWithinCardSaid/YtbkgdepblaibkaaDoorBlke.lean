/- Contracts of package block: End. -/
import Derived.Test.YtbkgdepblaibkaaDoorBlkz
namespace Go.Proofs.YtbkgdepblaibkaaDoor
open Go.RowKit
set_option linter.unusedVariables false
set_option linter.unusedSimpArgs false

theorem ended_any (v : Value) (ls : List (List Tok)) (a : Int) (w : World) (hL : Lins w v ls) (hn : ls.length ≤ 1000000) :
    Calls Tryd.prog 44 #[v, .int .i64 a] w (RetEnd (endP ls a) w) := by
  by_cases h : a < 0 ∨ (ls.length : Int) ≤ a
  · exact ended_out v ls a w hL h
  · obtain ⟨n, rfl⟩ := Int.eq_ofNat_of_zero_le (show 0 ≤ a by omega)
    obtain ⟨l, hl⟩ : ∃ l, ls[n]? = some l := ⟨_, List.getElem?_eq_getElem (by omega)⟩
    cases hb : begB (kindP l)
    · exact ended_plain v ls n l w hL hl hb
    · exact ended_in v ls n l w hL hn hl hb

set_option maxHeartbeats 1000000 in
theorem end_any (v : Value) (ls : List (List Tok)) (a : Int) (w : World) (hE : ErrT w) (hL : Lins w v ls) (hn : ls.length ≤ 1000000) :
    Calls Tryd.prog 19 #[v, .int .i64 a] w (RetEnd (endP ls a) w) := by
  have C1 := Lib.hid (ended_any v ls a w hL hn)
  clear hL
  generalize endP ls a = V at *
  go_enter Tryd.func19, Tryd.ntmps19
  go_wp2_with fail
  refine C1.out.mono ?_
  rintro e w1 ⟨x, y, u, rfl, hn1, hc⟩
  rcases hc with ⟨hV, rfl⟩ | ⟨l, c, hV, rfl, rfl, hF⟩
  · have HV := Lib.hid hV
    have HN := Lib.hid (hn1)
    clear hV hn1
    go_wp2_with fail
    refine (as_nil _ _).mono ?_
    rintro e w2 ⟨rfl, rfl⟩
    go_wp2
    go_ret3
    exact ⟨x, y, .nilIface, rfl, HN.out.alloc _, Or.inl ⟨HV.out, rfl⟩⟩
  · obtain ⟨g, o, rfl, h0, h1, h2⟩ := hF
    have HV := Lib.hid hV
    have HN := Lib.hid hn1
    have HF := Lib.hid (show FaultIs w1 (.iface 77 (.pointer (some ⟨g, o, none⟩))) l c 15 from ⟨g, o, rfl, h0, h1, h2⟩)
    have HE := Lib.hid ((hE.nx hn1).nx ((Nx.refl w1).alloc (.cells #[.pointer none] 77)))
    clear hV hn1 h0 h1 h2 hE
    go_wp2_with fail
    refine (as_fault ⟨g, o, none⟩ ⟨w1.heap.size, 0, none⟩ (.pointer none) _ HE.out (by simp) (by simp)).mono ?_
    rintro e w2 ⟨rfl, W2, hn2, rfl⟩
    have c3 := set_same (t := ⟨w1.heap.size, 0, none⟩) (v := .pointer none) hn2 (by simp) (.pointer (some ⟨g, o, none⟩))
    have hz : w1.heap.size < (W2.setCell ⟨w1.heap.size, 0, none⟩ (.pointer (some ⟨g, o, none⟩))).heap.size := by have := hn2.size; simp at this ⊢; omega
    have hnx : Nx w1 (W2.setCell ⟨w1.heap.size, 0, none⟩ (.pointer (some ⟨g, o, none⟩))) := set_nx hn2 ((Nx.refl w1).alloc _) (Nat.le_refl _) _
    generalize W2.setCell ⟨w1.heap.size, 0, none⟩ (.pointer (some ⟨g, o, none⟩)) = W3 at *
    have HX := Lib.hid hnx
    clear hn2 hnx HE
    go_wp2
    go_quiet (fail)
    go_wp2
    go_ret3
    exact ⟨0, 0, _, rfl, (HN.out.trans HX.out).drewN _, Or.inr ⟨l, c, HV.out, rfl, rfl, (HF.out.nx HX.out).nx ((Nx.refl _).drewN _)⟩⟩

end Go.Proofs.YtbkgdepblaibkaaDoor
