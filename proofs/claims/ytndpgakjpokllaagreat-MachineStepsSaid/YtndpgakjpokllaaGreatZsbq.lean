/- Parts of the proof, one behind the other. -/
import Derived.Test.YtndpgakjpokllaaGreatRows
import Derived.ProofKit
import Derived.OpenShut
import Derived.Deep.Slices
import Derived.Test.YtndpgakjpokllaaGreatZsbm
/- A state that is handed over by value: its parts. -/
namespace Go.Proofs.YtndpgakjpokllaaGreat
open Go.ChangeShapes Go.WideShapes Go.ChangeAt Go.RowKit Go.Deep
set_option linter.unusedVariables false
set_option linter.unusedSimpArgs false
set_option maxRecDepth 100000

theorem list_of {α : Type} {n : Nat} {p : Nat → α → Prop} (h : ∀ i, i < n → ∃ x, p i x) : ∃ l : List α, l.length = n ∧ ∀ i x, l[i]? = some x → p i x := by
  induction n with
  | zero => exact ⟨[], rfl, fun i x hx => by cases hx⟩
  | succ n ih =>
    obtain ⟨l, hl, hp⟩ := ih (fun i hi => h i (by omega))
    obtain ⟨x, hx⟩ := h n (by omega)
    refine ⟨l ++ [x], by simp [hl], fun i y hy => ?_⟩
    rw [List.getElem?_append] at hy
    split at hy
    · exact hp i y hy
    · rename_i hn
      have : i = n := by
        have := (List.getElem?_eq_some_iff.1 hy).1
        simp at this
        omega
      subst this
      rw [hl] at hy
      simp at hy
      subst hy
      exact hx

theorem add_flat (b o k : Nat) : (⟨b, o, none⟩ : Addr).add k = ⟨b, o + k, none⟩ := by unfold Addr.add; split <;> simp_all

theorem c_u32 : Tryz.prog.cellsOf 22 = 1 := by kernel_rfl

theorem c_u8 : Tryz.prog.cellsOf 5 = 1 := by kernel_rfl

theorem c_cell : Tryz.prog.cellsOf 43 = 2 := by kernel_rfl

theorem c_cells : Tryz.prog.cellsOf 24 = 1 := by kernel_rfl

theorem c_regs : Tryz.prog.cellsOf 23 = 32 := by kernel_rfl

theorem c_state : Tryz.prog.cellsOf 26 = 34 := by kernel_rfl

section
variable {H : Type} {enc : TypeId × Value → H} {w : World} {base : Nat} {held : Bool}

theorem open_cell {fuel : Nat} {cs : List Value} {x : DataW H × List MemPlace} (h : DataW.trod enc Tryz.prog w base (fun _ => true) held fuel 43 cs = some x) :
    ∃ c : Int × Int, cs = [.int .u32 c.1, .int .u8 c.2] ∧ 0 ≤ c.1 ∧ c.1 < 4294967296 ∧ 0 ≤ c.2 ∧ c.2 < 256 := by
  obtain ⟨xs, n, _, rfl, hl, hlen, hf⟩ := DataW.trod_struct Tryz.underlying43 h
  have h2 : cs.length = 2 := hl.trans c_cell
  match cs, h2, xs, hlen with
  | [c0, c1], _, [y0, y1], _ =>
    have g0 := hf 0 _ rfl
    have g1 := hf 1 _ rfl
    simp [c_u32, c_u8] at g0 g1
    obtain ⟨n0, e0, _, b0⟩ := DataW.trod_int (k := .u32) Tryz.underlying22 g0
    obtain ⟨n1, e1, _, b1⟩ := DataW.trod_int (k := .u8) Tryz.underlying5 g1
    simp only [List.cons.injEq, and_true] at e0 e1
    subst e0 e1
    have q0 := bounds_u32 b0
    have q1 := bounds_u8 b1
    exact ⟨(n0, n1), rfl, q0.1, by show n0 < _; omega, q1.1, by show n1 < _; omega⟩

theorem open_cells1 {fuel : Nat} {v : Value} {x : DataW H × List MemPlace} (h : DataW.trod enc Tryz.prog w base (fun _ => true) held fuel 24 [v] = some x) : ∃ L, CellsAt w v L ∧ IsCells L := by
  rcases open_slice Tryz.underlying24 h with ⟨hv, rfl⟩ | ⟨a, len, cap, m, n, D, Pl, hv, hb, hl, hm, hmm, rfl, hi⟩
  · simp at hv
    subst hv
    exact ⟨[], .inl ⟨⟨_, rfl⟩, rfl⟩, by intro x hx; cases hx⟩
  · simp at hv
    subst hv
    simp only [if_true] at hmm
    have hmm' := hmm.symm
    subst hmm'
    clear hmm
    rw [c_cell] at hi
    have each : ∀ i, i < len → ∃ c : Int × Int, (0 ≤ c.1 ∧ c.1 < 4294967296 ∧ 0 ≤ c.2 ∧ c.2 < 256) ∧ w.cell? (a.add (i * 2)) = some (.int .u32 c.1) ∧ w.cell? ((a.add (i * 2)).add 1) = some (.int .u8 c.2) := by
      intro i hil
      obtain ⟨cs', hc, ht⟩ := hi i (by omega)
      obtain ⟨c, rfl, hbd⟩ := open_cell ht
      obtain ⟨_, _, hat⟩ := World.cells?_some hc
      have h0 := hat 0 (by omega)
      have h1 := hat 1 (by omega)
      rw [Go.Deep.add_add, Nat.add_zero] at h0
      exact ⟨c, hbd, h0, h1⟩
    obtain ⟨L, hlen, hp⟩ := list_of each
    refine ⟨L, ?_, fun x hx => ?_⟩
    · rcases Nat.eq_zero_or_pos len with h0 | h0
      · subst h0
        have hnil : L = [] := List.eq_nil_of_length_eq_zero hlen
        subst hnil
        rcases Nat.eq_zero_or_pos cap with hc0 | hc0
        · subst hc0; exact .inl ⟨⟨_, rfl⟩, rfl⟩
        · obtain ⟨cs', hc, _⟩ := hi 0 hc0
          obtain ⟨_, hcl, hat⟩ := World.cells?_some hc
          have h0 := hat 0 (by omega)
          rw [List.getElem?_eq_getElem (by omega)] at h0
          obtain ⟨b, o, spot⟩ := a
          have hs : spot = none := by simpa [Addr.add] using World.cell?_spot h0
          subst hs
          exact .inr ⟨b, o, cap, rfl, Nat.zero_le _, hm, fun k t hk => by cases hk⟩
      · obtain ⟨t0, ht0⟩ : ∃ t, L[0]? = some t := ⟨_, List.getElem?_eq_getElem (by omega)⟩
        have h0 := (hp 0 t0 ht0).2.1
        obtain ⟨b, o, spot⟩ := a
        have hs : spot = none := by simpa [Addr.add] using World.cell?_spot h0
        subst hs
        refine .inr ⟨b, o, cap, by rw [hlen], by omega, hm, fun k t hk => ?_⟩
        obtain ⟨_, e0, e1⟩ := hp k t hk
        rw [add_flat] at e0
        rw [add_flat, add_flat] at e1
        exact ⟨e0, e1⟩
    · obtain ⟨k, hk⟩ := List.getElem?_of_mem hx
      exact (hp k x hk).1

theorem open_regs {fuel : Nat} {cs : List Value} {x : DataW H × List MemPlace} (h : DataW.trod enc Tryz.prog w base (fun _ => true) held fuel 23 cs = some x) : ∃ rg : List Int, cs = rg.map (Value.int .u32) ∧ GoodR rg := by
  obtain ⟨xs, m, _, rfl, hl, hlen, hf⟩ := DataW.trod_array Tryz.underlying23 h
  have hl2 : cs.length = 32 := hl.trans c_regs
  have each : ∀ i, i < 32 → ∃ n : Int, (0 ≤ n ∧ n < 4294967296) ∧ cs[i]? = some (.int .u32 n) := by
    intro i hi
    have g := hf i hi
    rw [c_u32, Nat.mul_one, List.getElem?_eq_getElem (by omega)] at g
    obtain ⟨n, e, _, b⟩ := DataW.trod_int (k := .u32) Tryz.underlying22 g
    have q := bounds_u32 b
    refine ⟨n, ⟨q.1, by omega⟩, ?_⟩
    have e0 := congrArg (·[0]?) e
    simp at e0
    exact e0
  obtain ⟨rg, hrl, hp⟩ := list_of each
  refine ⟨rg, List.ext_getElem? fun i => ?_, hrl, fun x hx => ?_⟩
  · rw [List.getElem?_map]
    by_cases hi : i < 32
    · have e : rg[i]? = some rg[i] := List.getElem?_eq_getElem (by omega)
      rw [(hp i _ e).2, e]
      rfl
    · rw [List.getElem?_eq_none (by omega), List.getElem?_eq_none (by omega)]
      rfl
  · obtain ⟨k, hk⟩ := List.getElem?_of_mem hx
    exact (hp k x hk).1

theorem open_state {r : Reach} {b0 : Nat} {v : Value} {d : DataW H} {p : List MemPlace} (hv : Value.okWide Tryz.prog w r b0 26 v) (h : DataW.Trod enc Tryz.prog w base (fun _ => true) held 26 v d p) :
    ∃ (rg : List Int) (pc : Int) (u : Value) (L : List (Int × Int)), v = .agg (machC rg pc u) ∧ GoodR rg ∧ 0 ≤ pc ∧ pc < 4294967296 ∧ IsCells L ∧ CellsAt w u L := by
  obtain ⟨cs, rfl, hsz⟩ := okWide_struct Tryz.underlying26 hv
  obtain ⟨l⟩ := cs
  have hl34 : l.length = 34 := hsz.trans c_state
  obtain ⟨fuel, hf⟩ := h
  obtain ⟨xs, n, _, hx, _, hlen, hg⟩ := DataW.trod_struct Tryz.underlying26 hf
  match xs, hlen with
  | [y0, y1, y2], _ =>
    have g0 : DataW.trod enc Tryz.prog w base (fun _ => true) held n 23 ((l.drop 0).take (Tryz.prog.cellsOf 23)) = some y0 := hg 0 _ rfl
    have g1 : DataW.trod enc Tryz.prog w base (fun _ => true) held n 22 ((l.drop 32).take (Tryz.prog.cellsOf 22)) = some y1 := hg 1 _ rfl
    have g2 : DataW.trod enc Tryz.prog w base (fun _ => true) held n 24 ((l.drop 33).take (Tryz.prog.cellsOf 24)) = some y2 := hg 2 _ rfl
    rw [c_regs, List.drop_zero] at g0
    rw [c_u32] at g1
    rw [c_cells] at g2
    obtain ⟨rg, e0, hr⟩ := open_regs g0
    obtain ⟨pc, e1, _, b1⟩ := DataW.trod_int (k := .u32) Tryz.underlying22 g1
    have q := bounds_u32 b1
    have e2 : (l.drop 33).take 1 = [l[33]] := by
      rw [List.drop_eq_getElem_cons (by omega)]
      rfl
    rw [e2] at g2
    obtain ⟨L, hL, hc⟩ := open_cells1 g2
    refine ⟨rg, pc, l[33], L, ?_, hr, q.1, by omega, hc, hL⟩
    have e3 : l = l.take 32 ++ ((l.drop 32).take 1 ++ l.drop 33) := by
      rw [show l.drop 33 = (l.drop 32).drop 1 by rw [List.drop_drop], List.take_append_drop, List.take_append_drop]
    have e4 : l.drop 33 = [l[33]] := by
      rw [List.drop_eq_getElem_cons (by omega), List.drop_eq_nil_of_le (by omega)]
    unfold machC
    congr 1
    rw [e4] at e3
    have e0' : l.take 32 = rg.map (Value.int .u32) := e0
    have e1' : (l.drop 32).take 1 = [.int .u32 pc] := e1
    rw [e0', e1'] at e3
    exact congrArg List.toArray e3

end

end Go.Proofs.YtndpgakjpokllaaGreat

