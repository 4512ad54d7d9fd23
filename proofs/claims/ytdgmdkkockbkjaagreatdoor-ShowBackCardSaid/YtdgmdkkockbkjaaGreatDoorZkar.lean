/- Parts of the proof, one behind the other. -/
import Derived.Deep.CutRange
import Derived.Deep.RegionHeld3
import Derived.Deep.RegionLaw
import Derived.RegionTactic
import Derived.Test.YtdgmdkkockbkjaaGreatDoorZkak
import Derived.Test.YtdgmdkkockbkjaaGreatDoorZkap
import Derived.Test.YtdgmdkkockbkjaaGreatDoorZkaq
/- Contract of typecaseref17.items, at a text's statement. -/
namespace Go.Proofs.YtdgmdkkockbkjaaGreatDoor
open Go.RowKit
set_option linter.unusedVariables false
set_option linter.unusedSimpArgs false

abbrev optO (a b : Bool) : Obj := .cells #[.bool a, .bool b] 42

abbrev fauO (ln cl code : Int) : Obj := .cells #[.int .i64 ln, .int .i64 cl, .int .i64 code] 29

abbrev itO (kd ln cl : Int) (nm : List UInt8) (i : In5) (s : List UInt8) (sz : Int) (nv : Value) (num : Int) (a b : Bool) : Obj := .cells (itC kd ln cl nm i s sz nv num a b).toArray 47

/-- The boxes of items. -/
theorem four_boxes {w w2 : World} {A0 A1 A2 A3 : Obj} (h : Nx ((((w.alloc A0).alloc A1).alloc A2).alloc A3) w2) : Has w2 w.heap.size A0 ∧ Has w2 (w.heap.size + 1) A1 ∧ Has w2 (w.heap.size + 1 + 1) A2 ∧ Has w2 (w.heap.size + 1 + 1 + 1) A3 ∧ Nx w w2 :=
  ⟨Has.nx ((((Has.new w A0).alloc A1).alloc A2).alloc A3) h, Has.nx (((Has.at_ _ A1 (by simp)).alloc A2).alloc A3) h, Has.nx ((Has.at_ _ A2 (by simp)).alloc A3) h, Has.nx (Has.at_ _ _ (by simp)) h, Nx.trans (((((Nx.refl w).alloc _).alloc _).alloc _).alloc _) h⟩

/-- What is late of a text: its place. -/
def LateIs (i : In5) (s : List UInt8) (w : World) (kd num : Int) (nv : Value) : Prop :=
  (∃ A m c, nv = .slice A m c) ∧ (((lsT i s).contains 106 = false ∧ kd = 2) ∨ ((lsT i s).contains 106 = true ∧ kd = 3 ∧ num = 2 ∧ ∃ ns, Nods w nv ns ∧ ns.map nodK = hereN i.imm))

theorem Bes.of {g : Nat} {w a b : World} (hn : Nx w a) (h : Bes g a b) : Bes g w b :=
  ⟨Nat.le_trans hn.size h.1, fun x hx hg => (h.2 x (Nat.lt_of_lt_of_le hx hn.size) hg).trans (Below.block hn x hx)⟩

theorem item_size : (Tryz.prog.info? 47).map (·.size) = some 15 := by kernel_rfl

theorem item_one (kd ln cl : Int) (nm : List UInt8) (i : In5) (s : List UInt8) (sz : Int) (A : Option Addr) (m c : Nat) (num : Int) (a b : Bool) : (itC kd ln cl nm i s sz (.slice A m c) num a b).toArray.all (·.oneCell') = true := by simp [itC, Value.oneCell']

theorem Has.there {w : World} {g : Nat} {T : TypeId} {cs : Array Value} (h : Has w g (.cells cs T (0, 0))) : w.there g 0 cs.size := fun j hj => by
  rw [Nat.zero_add]
  exact ⟨by rw [h.cell j _ (Array.getElem?_eq_getElem hj)]; rfl, h.free j⟩

theorem Has.farCells {g b : Nat} {o : Obj} (hne : g ≠ b) : ∀ (vs : List Value) (k : Nat) (w : World), Has w g o → Has (w.setCells b k vs) g o
  | [], _, _, h => h
  | v :: r, k, _, h => Has.farCells hne r (k + 1) _ (h.far (p := ⟨b, k, none⟩) hne v)

theorem Has.putsAt {g : Nat} {T : TypeId} {fz : Nat × Nat} : ∀ (vs os pre : List Value) (w : World), os.length = vs.length → Has w g (.cells (pre ++ os).toArray T fz) → Has (w.setCells g pre.length vs) g (.cells (pre ++ vs).toArray T fz)
  | [], [], _, _, _, h => h
  | v :: r, o :: os, pre, w, hl, h => by
    have h1 := h.put pre.length v
    rw [List.setIfInBounds_toArray, List.set_append_right _ _ (Nat.le_refl _), Nat.sub_self, List.set_cons_zero] at h1
    have h2 := Has.putsAt r os (pre ++ [v]) _ (by simpa using hl) (by simpa using h1)
    simpa [World.setCells] using h2

theorem Has.puts {w : World} {g : Nat} {T : TypeId} {fz : Nat × Nat} {os vs : List Value} (h : Has w g (.cells os.toArray T fz)) (hl : os.length = vs.length) : Has (w.setCells g 0 vs) g (.cells vs.toArray T fz) :=
  Has.putsAt vs os [] w hl h

theorem take_two (l : List UInt8) : ((B l).extract 0 2).toList = l.take 2 := by
  rw [ByteArray.toList_eq]
  show ((B l).extract 0 2).data.toList = _
  simp

/-- What comes of items: one item. -/
def RetItems (i : In5) (s : List UInt8) (wA w : World) (e : Ending) (w' : World) : Prop :=
  ∃ g kd num nv, e = .returned (.tuple #[.slice (some ⟨g, 0, none⟩) 1 1, optV true false, fltV]) ∧ Nx w w' ∧ w.heap.size ≤ g ∧ Has w' g (itO kd 0 0 [] (endI i s) s (szS s) nv num false false) ∧ LateIs i s wA kd num nv

theorem ls_last (i : In5) (s : List UInt8) (h : okT i s = true) : ∀ j, j < (lsT i s).length → ((lsT i s).take j).contains 106 = false := by
  unfold lsT
  by_cases hs : s = []
  · rw [if_pos hs]
    rcases formN_range i.op with hf | hf | hf | hf | hf | hf | hf | hf | hf | hf <;> rw [hf] <;> decide
  · rw [if_neg hs]
    obtain ⟨n, r, hr, hn, h1, h2, hf⟩ := okT_short i s h hs
    unfold lsT at h2
    rw [if_neg hs] at h2
    rw [h2]
    have h8 : ∀ n < 27, ∀ j, j < (letSL.getD n []).length → ((letSL.getD n []).take j).contains 106 = false := by decide
    exact h8 n hn

theorem ls_quest (i : In5) (s : List UInt8) (h : okT i s = true) : (lsT i s == [63]) = false := by
  cases hb : (lsT i s == [63])
  · rfl
  · have e : lsT i s = [63] := by simpa using hb
    have := ls_letters i s h 63 (by rw [e]; simp)
    revert this; decide

/-- What has been found behind j letters. -/
def KAt (i : In5) (s : List UInt8) (qs : List Arg) (j : Nat) (k : Wk) : Prop :=
  k.i = ((lsT i s).take j).foldl (upd i) (ins0 i s) ∧ (∃ A m c, k.nv = .slice A m c) ∧ ((((lsT i s).take j).contains 106 = false ∧ k.late = false) ∨ (((lsT i s).take j).contains 106 = true ∧ k.late = true ∧ k.how = 2 ∧ ∃ q ∈ qs, k.nv = q.nv ∧ nodO q.o = hereN i.imm))

theorem KAt.step {i : In5} {s : List UInt8} {qs : List Arg} {j : Nat} {k : Wk} {c : UInt8} {q : Arg} (h : KAt i s qs j k) (hj : j < (lsT i s).length) (hok : okT i s = true) (hc : (lsT i s)[j]? = some c) (hq : qs[j]? = some q) (ho : q.o = opO c i) (hv : ∃ A m n, q.nv = .slice A m n) : KAt i s qs (j + 1) (updW i q.nv k c) := by
  obtain ⟨h1, h2, h3⟩ := h
  have hnot := ls_last i s hok j hj
  have htk : (lsT i s).take (j + 1) = (lsT i s).take j ++ [c] := take_snoc' _ _ _ hc
  have hlate : k.late = false := by
    rcases h3 with h | h
    · exact h.2
    · rw [hnot] at h; cases h.1
  refine ⟨by rw [htk, List.foldl_append, ← h1]; rfl, ?_, ?_⟩
  · show ∃ A m n, (if c = 106 then q.nv else k.nv) = .slice A m n
    split
    · exact hv
    · exact h2
  · rw [htk]
    by_cases e : c = 106
    · subst e
      exact Or.inr ⟨by simp, rfl, rfl, q, List.mem_of_getElem? hq, rfl, by rw [ho]; rfl⟩
    · refine Or.inl ⟨?_, ?_⟩
      · rw [List.contains_append, hnot]
        simp
        exact fun h => e h.symm
      · show (if c = 106 then true else k.late) = false
        rw [if_neg e, hlate]

/-- What holds at the head of the letters' loop. -/
def ItRel (i : In5) (s : List UInt8) (qs : List Arg) (ln cl : Int) (av : Value) (w w2 w4 wr : World) (jv : Value) : Prop :=
  ∃ (j : Nat) (k : Wk), jv = .int .i64 j ∧ j ≤ (lsT i s).length ∧ KAt i s qs j k ∧ Has wr w4.heap.size (wkO k) ∧ Has wr w.heap.size (stmO (nmT i s) ln cl av) ∧ Has wr (w.heap.size + 1) (optO true false) ∧ Has wr (w.heap.size + 1 + 1) (optO false false) ∧ Has wr (w.heap.size + 1 + 1 + 1) fltO ∧ Has wr w2.heap.size (fauO ln cl 0) ∧ Nx w wr

set_option maxHeartbeats 16000000 in
set_option maxRecDepth 100000 in
theorem items_any (i : In5) (s : List UInt8) (hok : okT i s = true) (hi0 : -2147483648 ≤ i.imm) (hi1 : i.imm ≤ 2147483647) (ln cl : Int) (av : Value) (qs : List Arg) (base : Nat) (wA w : World) (hA0 : OwnA wA base av qs) (hwA : Nx wA w) (hq : qs.map Arg.o = (lsT i s).map fun c => opO c i) :
    Calls Tryz.prog 24 #[stmV (nmT i s) ln cl av, optV true false, .slice none 0 0] w (RetItems i s wA w) := by
  have hA := hA0.nx hwA
  have hql : qs.length = (lsT i s).length := by
    have := congrArg List.length hq
    simpa using this
  have CL := Lib.hid (letters_nm i s hok)
  have CI := Lib.hid (ins_nm i s hok)
  have HSP := Lib.hid (show inB (nmT i s) [[108, 105], [108, 97], [99, 97, 108, 108], [116, 97, 105, 108], [46, 111, 112, 116, 105, 111, 110], [46, 122, 101, 114, 111], [46, 97, 108, 105, 103, 110], [46, 111, 114, 103], [46, 98, 121, 116, 101], [46, 104, 97, 108, 102], [46, 119, 111, 114, 100], [46, 50, 98, 121, 116, 101], [46, 52, 98, 121, 116, 101], [46, 97, 115, 99, 105, 105], [46, 97, 115, 99, 105, 122]] = false from nm_special i s hok)
  have HJL := Lib.hid (nm_jal i s hok)
  have HNC := Lib.hid (nm_c i s hok)
  have hqm := ls_quest i s hok
  have hl3 := lsT_len i s
  obtain ⟨Av, cv, rfl⟩ := hA.form
  have HAA := Lib.hid hA
  have HA0 := Lib.hid hA0
  have HQ := Lib.hid hq
  obtain ⟨ls, hls⟩ : ∃ x, lsT i s = x := ⟨_, rfl⟩
  rw [hls] at CL HJL hqm hl3 hql
  obtain ⟨nm, hnm⟩ : ∃ x, nmT i s = x := ⟨_, rfl⟩
  rw [hnm] at CL CI HSP HJL HNC ⊢
  have HLS := Lib.hid hls
  have HNM := Lib.hid hnm
  rw [hql]
  have HQL := Lib.hid hql
  clear hA hA0 hwA hq hls hnm hql
  go_enter Tryz.func24, Tryz.ntmps24
  go_wp2_with fail
  refine (CL.out _).mono ?_
  rintro e w2 ⟨rfl, hn2⟩
  obtain ⟨k0, k1, k2, k3, hx⟩ := four_boxes hn2
  have K0 := Lib.hid k0
  have K1 := Lib.hid k1
  have K2 := Lib.hid k2
  have K3 := Lib.hid k3
  have HN := Lib.hid hx
  have z32 : w.heap.size + 1 + 1 + 1 < w2.heap.size := k3.lt
  clear hn2 k0 k1 k2 k3 hx
  have ac0 := K0.out.cell 0 _ rfl
  have af0 := K0.out.free 0
  have ac1 := K0.out.cell 1 _ rfl
  have af1 := K0.out.free 1
  have ac2 := K0.out.cell 2 _ rfl
  have af2 := K0.out.free 2
  have ac3 := K0.out.cell 3 _ rfl
  have af3 := K0.out.free 3
  have ac4 := K0.out.cell 4 _ rfl
  have af4 := K0.out.free 4
  have az := K0.out.lt
  go_wp2_with fail
  have HST : Strs ((w2.alloc (fauO ln cl 0)).alloc (.cells (([[108, 105], [108, 97], [99, 97, 108, 108], [116, 97, 105, 108], [46, 111, 112, 116, 105, 111, 110], [46, 122, 101, 114, 111], [46, 97, 108, 105, 103, 110], [46, 111, 114, 103], [46, 98, 121, 116, 101], [46, 104, 97, 108, 102], [46, 119, 111, 114, 100], [46, 50, 98, 121, 116, 101], [46, 52, 98, 121, 116, 101], [46, 97, 115, 99, 105, 105], [46, 97, 115, 99, 105, 122]] : List (List UInt8)).map fun s => Value.string (B s)).toArray 9)) (w2.heap.size + 1) [[108, 105], [108, 97], [99, 97, 108, 108], [116, 97, 105, 108], [46, 111, 112, 116, 105, 111, 110], [46, 122, 101, 114, 111], [46, 97, 108, 105, 103, 110], [46, 111, 114, 103], [46, 98, 121, 116, 101], [46, 104, 97, 108, 102], [46, 119, 111, 114, 100], [46, 50, 98, 121, 116, 101], [46, 52, 98, 121, 116, 101], [46, 97, 115, 99, 105, 105], [46, 97, 115, 99, 105, 122]] := by
    have := Strs.new (w2.alloc (fauO ln cl 0)) [[108, 105], [108, 97], [99, 97, 108, 108], [116, 97, 105, 108], [46, 111, 112, 116, 105, 111, 110], [46, 122, 101, 114, 111], [46, 97, 108, 105, 103, 110], [46, 111, 114, 103], [46, 98, 121, 116, 101], [46, 104, 97, 108, 102], [46, 119, 111, 114, 100], [46, 50, 98, 121, 116, 101], [46, 52, 98, 121, 116, 101], [46, 97, 115, 99, 105, 105], [46, 97, 115, 99, 105, 122]] 9
    rwa [World.size_alloc] at this
  refine (in17n_any nm _ [[108, 105], [108, 97], [99, 97, 108, 108], [116, 97, 105, 108], [46, 111, 112, 116, 105, 111, 110], [46, 122, 101, 114, 111], [46, 97, 108, 105, 103, 110], [46, 111, 114, 103], [46, 98, 121, 116, 101], [46, 104, 97, 108, 102], [46, 119, 111, 114, 100], [46, 50, 98, 121, 116, 101], [46, 52, 98, 121, 116, 101], [46, 97, 115, 99, 105, 105], [46, 97, 115, 99, 105, 122]] (by decide) false HSP.out _ ⟨_, _, rfl, Or.inr ⟨_, rfl, HST⟩⟩).mono ?_
  rintro e w3 ⟨rfl, hn3⟩
  have K5 := Lib.hid (Has.nx ((Has.new w2 (fauO ln cl 0)).alloc _) hn3)
  have hx3 : Nx w2 w3 := Nx.trans (((Nx.refl w2).alloc _).alloc _) hn3
  clear hn3
  have K0 := Lib.hid (K0.out.nx hx3)
  have K1 := Lib.hid (K1.out.nx hx3)
  have K2 := Lib.hid (K2.out.nx hx3)
  have K3 := Lib.hid (K3.out.nx hx3)
  have HN := Lib.hid (HN.out.trans hx3)
  clear hx3 ac0 af0 ac1 af1 ac2 af2 ac3 af3 ac4 af4 az
  have ac0 := K0.out.cell 0 _ rfl
  have af0 := K0.out.free 0
  have ac1 := K0.out.cell 1 _ rfl
  have af1 := K0.out.free 1
  have ac2 := K0.out.cell 2 _ rfl
  have af2 := K0.out.free 2
  have ac3 := K0.out.cell 3 _ rfl
  have af3 := K0.out.free 3
  have ac4 := K0.out.cell 4 _ rfl
  have af4 := K0.out.free 4
  have az := K0.out.lt
  go_wp2_with fail
  refine (CI.out _).mono ?_
  rintro e w4 ⟨rfl, hn4⟩
  have K0 := Lib.hid (K0.out.nx hn4)
  have K1 := Lib.hid (K1.out.nx hn4)
  have K2 := Lib.hid (K2.out.nx hn4)
  have K3 := Lib.hid (K3.out.nx hn4)
  have K5 := Lib.hid (K5.out.nx hn4)
  have HN := Lib.hid (HN.out.trans hn4)
  clear hn4 ac0 af0 ac1 af1 ac2 af2 ac3 af3 ac4 af4 az
  have ac0 := K0.out.cell 0 _ rfl
  have af0 := K0.out.free 0
  have ac1 := K0.out.cell 1 _ rfl
  have af1 := K0.out.free 1
  have ac2 := K0.out.cell 2 _ rfl
  have af2 := K0.out.free 2
  have ac3 := K0.out.cell 3 _ rfl
  have af3 := K0.out.free 3
  have ac4 := K0.out.cell 4 _ rfl
  have af4 := K0.out.free 4
  have az := K0.out.lt
  have z54 : w2.heap.size < w4.heap.size := K5.out.lt
  go_upto_region 12 with fail
  go_cut [12, 67] from 58 to 69 (fun pv bv wx => pv = .pointer (some ⟨w4.heap.size, 0, none⟩) ∧ bv = .bool false ∧ Has wx w4.heap.size (wkO ⟨⟨i.op, (ins0 i s).rd, 0, 0, 0⟩, false, .slice none 0 0, 0⟩) ∧ Nx w4 wx)
  case first =>
    have HST : Strs ((w4.alloc (wkO ⟨⟨i.op, (ins0 i s).rd, 0, 0, 0⟩, false, .slice none 0 0, 0⟩)).alloc (.cells (([[106, 97, 108], [106, 97, 108, 114]] : List (List UInt8)).map fun s => Value.string (B s)).toArray 9)) (w4.heap.size + 1) [[106, 97, 108], [106, 97, 108, 114]] := by
      have := Strs.new (w4.alloc (wkO ⟨⟨i.op, (ins0 i s).rd, 0, 0, 0⟩, false, .slice none 0 0, 0⟩)) [[106, 97, 108], [106, 97, 108, 114]] 9
      rwa [World.size_alloc] at this
    obtain ⟨b, hb⟩ : ∃ b, inB nm [[106, 97, 108], [106, 97, 108, 114]] = b := ⟨_, rfl⟩
    have HB := Lib.hid hb
    clear hb
    cases b
    all_goals
      go_wp2_with fail
      refine (in17n_any nm _ [[106, 97, 108], [106, 97, 108, 114]] (by decide) _ HB.out _ ⟨_, _, rfl, Or.inr ⟨_, rfl, HST⟩⟩).mono ?_
      rintro e w5 ⟨rfl, hn5⟩
      have K12 := Lib.hid (Has.nx ((Has.new w4 (wkO ⟨⟨i.op, (ins0 i s).rd, 0, 0, 0⟩, false, .slice none 0 0, 0⟩)).alloc _) hn5)
      have HX5 := Lib.hid (Nx.trans (((Nx.refl w4).alloc _).alloc _) hn5)
      have KZ := Lib.hid (K0.out.nx HX5.out)
      clear hn5 ac0 af0 ac1 af1 ac2 af2 ac3 af3 ac4 af4 az
      have ac0 := KZ.out.cell 0 _ rfl
      have af0 := KZ.out.free 0
      have ac1 := KZ.out.cell 1 _ rfl
      have af1 := KZ.out.free 1
      have ac2 := KZ.out.cell 2 _ rfl
      have af2 := KZ.out.free 2
      have ac3 := KZ.out.cell 3 _ rfl
      have af3 := KZ.out.free 3
      have ac4 := KZ.out.cell 4 _ rfl
      have af4 := KZ.out.free 4
      have az := KZ.out.lt
    · go_wp2
      go_meet
      case rel => exact ⟨rfl, rfl, K12.out, HX5.out⟩
    · have hlq : ((ls.length : Int) == 1) = false := by rw [beq_eq_false_iff_ne]; have := HJL.out HB.out; omega
      go_wp2
      go_meet
      case rel => exact ⟨rfl, rfl, K12.out, HX5.out⟩
  case rest =>
    obtain ⟨rfl, rfl, hk12, hn5⟩ := hcut
    have K12 := Lib.hid hk12
    clear hk12
    have K0 := Lib.hid (K0.out.nx hn5)
    have K1 := Lib.hid (K1.out.nx hn5)
    have K2 := Lib.hid (K2.out.nx hn5)
    have K3 := Lib.hid (K3.out.nx hn5)
    have K5 := Lib.hid (K5.out.nx hn5)
    have HN := Lib.hid (HN.out.trans hn5)
    clear hn5 ac0 af0 ac1 af1 ac2 af2 ac3 af3 ac4 af4 az
    have hw4 : w.heap.size ≤ w4.heap.size := by omega
    go_wp2
    go_loopw [13] (fun jv wr => ItRel i s qs ln cl (.slice Av ls.length cv) w w2 w4 wr jv) (fun jv _ => ls.length + 1 - (intOf jv).toNat)
    case atStart => exact ⟨0, ⟨⟨i.op, (ins0 i s).rd, 0, 0, 0⟩, false, .slice none 0 0, 0⟩, rfl, Nat.zero_le _, ⟨rfl, ⟨_, _, _, rfl⟩, Or.inl ⟨rfl, rfl⟩⟩, K12.out, by rw [HNM.out]; exact K0.out, K1.out, K2.out, K3.out, K5.out, HN.out⟩
    case round =>
      obtain ⟨j, k, rfl, hj, hk, h12, h00, h01, h02, h03, h05, hnx⟩ := hrel
      rw [HNM.out] at h00
      rw [HLS.out] at hj
      have KK := Lib.hid hk
      have K12 := Lib.hid h12
      have K0 := Lib.hid h00
      have K1 := Lib.hid h01
      have K2 := Lib.hid h02
      have K3 := Lib.hid h03
      have K5 := Lib.hid h05
      have HN := Lib.hid hnx
      clear hk h12 h00 h01 h02 h03 h05 hnx
      by_cases hlt : j < ls.length
      · obtain ⟨c, hc⟩ : ∃ c, ls[j]? = some c := ⟨_, List.getElem?_eq_getElem hlt⟩
        obtain ⟨q, hqj⟩ : ∃ q, qs[j]? = some q := ⟨_, List.getElem?_eq_getElem (by have := HQL.out; omega)⟩
        have ho : q.o = opO c i := by
          have := congrArg (fun l => l[j]?) HQ.out
          simp only [List.getElem?_map, hqj] at this
          rw [HLS.out, hc] at this
          simpa using this
        obtain ⟨hnq, hnk, _⟩ := HAA.out.2 q (List.mem_of_getElem? hqj)
        obtain ⟨Aq, cq, hqv, _⟩ := hnq.form
        have hstep := KK.out.step (by rw [HLS.out]; exact hlt) hok (by rw [HLS.out]; exact hc) hqj ho ⟨_, _, _, hqv⟩
        have TK := Lib.hid (fun w' (hw : Nx wr w') => take_any i c (ls_letters i s hok c (by rw [HLS.out]; exact List.mem_of_getElem? hc)) k q.ln q.cl q.nv q.ns w4.heap.size w w' (HN.out.trans hw) hw4 (K12.out.nx hw) hnq (by rw [hnk, ho]) hi0 hi1 (fun e => by subst e; exact back_upper i s hok (by rw [HLS.out]; exact List.mem_of_getElem? hc)))
        rw [← ho, hqv] at TK
        have HST := Lib.hid hstep
        rw [hqv] at HST
        obtain ⟨kq, hkq⟩ : ∃ x, kindO q.o = x := ⟨_, rfl⟩
        obtain ⟨rq, hrq⟩ : ∃ x, rgO q.o = x := ⟨_, rfl⟩
        rw [hkq, hrq] at TK
        have cells : ∃ ga, Av = some ⟨ga, 0, none⟩ ∧ ls.length ≤ cv ∧ cv ≤ maxLen ∧ ∀ (m : Nat) (u : Value), (argQ q)[m]? = some u → wr.cell? ⟨ga, j * 6 + m, none⟩ = some u := by
          obtain ⟨ga, cap, e, _, e2, e3⟩ := HAA.out.1.some (by have := HQL.out; omega)
          injection e with f1 f2 f3
          subst f1 f3
          exact ⟨ga, rfl, by have := HQL.out; omega, e3, fun m u hu => HN.out.cell (HAA.out.1.cells rfl _ _ (argsC_at qs j q hqj m u hu))⟩
        obtain ⟨ga, rfl, hcv, hcm, hcell⟩ := cells
        unfold maxLen at hcm
        unfold argQ argC at hcell
        rw [hkq, hrq, hqv] at hcell
        have g0 := hcell 0 _ rfl
        have g1 := hcell 1 _ rfl
        have g2 := hcell 2 _ rfl
        have g3 := hcell 3 _ rfl
        have g4 := hcell 4 _ rfl
        have g5 := hcell 5 _ rfl
        rw [Nat.add_zero] at g0
        have gz := block_lt g0
        have hjI : (j : Int) < ls.length := by omega
        have hlc : (ls.length : Int) ≤ cv := by omega
        have hix : ∀ hx, ((B ls)[j]'hx) = c := fun hx => by
          rw [List.getElem?_eq_getElem hlt] at hc
          injection hc
        obtain ⟨k2, hk2⟩ : ∃ x, updW i (.slice Aq q.ns.length cq) k c = x := ⟨_, rfl⟩
        rw [hk2] at TK HST
        clear hstep hcell hnq hnk ho hc hqj hkq hrq hqv hk2
        have ac0 := K0.out.cell 0 _ rfl
        have af0 := K0.out.free 0
        have ac1 := K0.out.cell 1 _ rfl
        have af1 := K0.out.free 1
        have ac2 := K0.out.cell 2 _ rfl
        have af2 := K0.out.free 2
        have ac3 := K0.out.cell 3 _ rfl
        have af3 := K0.out.free 3
        have ac4 := K0.out.cell 4 _ rfl
        have af4 := K0.out.free 4
        have az := K0.out.lt
        have hwr : w.heap.size ≤ wr.heap.size := HN.out.size
        have hgne : wr.heap.size ≠ w4.heap.size := by have := K12.out.lt; omega
        go_upto_region 17 with fail
        go_cut [14] from 76 to 85 (fun pv wx => ∃ gf, pv = .pointer (some ⟨gf, 0, none⟩) ∧ Has wx gf fltO ∧ Has wx w4.heap.size (wkO k2) ∧ Bes w4.heap.size wr wx ∧ Nx w wx)
        case first =>
          go_region_with (go_at_call 46; refine (TK.out _ (by repeat (with_reducible first | exact Nx.refl _ | refine Nx.drew ?_ | refine Nx.alloc ?_ _))).mono ?_; rintro e w7 ⟨rfl, hn7, hb7, hk7⟩; have HN7 := Lib.hid hn7; have HB7 := Lib.hid hb7; have HK7 := Lib.hid hk7; (first | (with_reducible have KF : Hid (Has w7 wr.heap.size fltO) := Lib.hid (Has.bes (hasO1 wr fltO) hb7 hgne); clear hn7 hb7 hk7; have zc0 := KF.out.cell 0 _ rfl; have zf0 := KF.out.free 0; have zc1 := KF.out.cell 1 _ rfl; have zf1 := KF.out.free 1; have zc2 := KF.out.cell 2 _ rfl; have zf2 := KF.out.free 2; have zz := KF.out.lt) | (clear hn7 hb7 hk7)))
          all_goals
            go_wp2
            go_meet
            case rel => first
              | exact ⟨w7.heap.size, rfl, Has.new w7 fltO, HK7.out.alloc _, (Bes.of ((Nx.refl _).drew) HB7.out).alloc _, HN7.out.alloc _⟩
              | exact ⟨wr.heap.size, rfl, ((KF.out.put 0 (.int .i64 0)).put 1 (.int .i64 0)).put 2 (.int .i64 0), ((HK7.out.far (p := ⟨wr.heap.size, 0, none⟩) hgne.symm _).far (p := ⟨wr.heap.size, 1, none⟩) hgne.symm _).far (p := ⟨wr.heap.size, 2, none⟩) hgne.symm _, (((Bes.of (((Nx.refl _).alloc _).drew) HB7.out).set_new (p := ⟨wr.heap.size, 0, none⟩) (Nat.le_refl _) _).set_new (p := ⟨wr.heap.size, 1, none⟩) (Nat.le_refl _) _).set_new (p := ⟨wr.heap.size, 2, none⟩) (Nat.le_refl _) _, ((HN7.out.setCell (p := ⟨wr.heap.size, 0, none⟩) hwr _).setCell (p := ⟨wr.heap.size, 1, none⟩) hwr _).setCell (p := ⟨wr.heap.size, 2, none⟩) hwr _⟩
        case rest =>
          obtain ⟨gf, rfl, hf, hk2, hb, hn⟩ := hcut
          have K12 := Lib.hid hk2
          have KF := Lib.hid hf
          have K0 := Lib.hid (K0.out.bes hb (by omega))
          have K1 := Lib.hid (K1.out.bes hb (by omega))
          have K2 := Lib.hid (K2.out.bes hb (by omega))
          have K3 := Lib.hid (K3.out.bes hb (by omega))
          have K5 := Lib.hid (K5.out.bes hb (by omega))
          have HN := Lib.hid hn
          clear hf hk2 hb hn g0 g1 g2 g3 g4 g5 gz ac0 af0 ac1 af1 ac2 af2 ac3 af3 ac4 af4 az
          have zc0 := KF.out.cell 0 _ rfl
          have zf0 := KF.out.free 0
          have zc1 := KF.out.cell 1 _ rfl
          have zf1 := KF.out.free 1
          have zc2 := KF.out.cell 2 _ rfl
          have zf2 := KF.out.free 2
          have zz := KF.out.lt
          go_wp2
          go_roundw
          case rel => exact ⟨j + 1, k2, by go_num, by rw [HLS.out]; omega, HST.out, K12.out, by rw [HNM.out]; exact K0.out, K1.out, K2.out, K3.out, K5.out, HN.out⟩
          case measure => simp [intOf]; omega
      · have hje : j = ls.length := by omega
        have hk := KK.out
        subst hje
        obtain ⟨⟨op, rd, rs1, rs2, imm⟩, late, nv, how⟩ := k
        obtain ⟨hki, ⟨An, mn, cn, hnv⟩, hor⟩ := hk
        dsimp only at hki hnv hor
        subst hnv
        have hts : (lsT i s).take ls.length = lsT i s := by rw [← HLS.out]; exact List.take_length
        rw [hts, back_all i s hok] at hki
        rw [hts] at hor
        have CK := Lib.hid (known_all i s hok hi0 hi1)
        have CH := Lib.hid (fun hj => hangs_all i s hok hj late An mn cn how)
        rw [← hki] at CK CH
        have HKI := Lib.hid hki
        have HOR := Lib.hid hor
        clear hki hor hts KK
        have ac0 := K0.out.cell 0 _ rfl
        have af0 := K0.out.free 0
        have ac1 := K0.out.cell 1 _ rfl
        have af1 := K0.out.free 1
        have ac2 := K0.out.cell 2 _ rfl
        have af2 := K0.out.free 2
        have ac3 := K0.out.cell 3 _ rfl
        have af3 := K0.out.free 3
        have ac4 := K0.out.cell 4 _ rfl
        have af4 := K0.out.free 4
        have az := K0.out.lt
        have bc0 := K12.out.cell 0 _ rfl
        have bf0 := K12.out.free 0
        have bc1 := K12.out.cell 1 _ rfl
        have bf1 := K12.out.free 1
        have bc2 := K12.out.cell 2 _ rfl
        have bf2 := K12.out.free 2
        have bc3 := K12.out.cell 3 _ rfl
        have bf3 := K12.out.free 3
        have bc4 := K12.out.cell 4 _ rfl
        have bf4 := K12.out.free 4
        have bc5 := K12.out.cell 5 _ rfl
        have bf5 := K12.out.free 5
        have bc6 := K12.out.cell 6 _ rfl
        have bf6 := K12.out.free 6
        have bc7 := K12.out.cell 7 _ rfl
        have bf7 := K12.out.free 7
        have bz := K12.out.lt
        obtain ⟨sb, hsb⟩ : ∃ x, (s != []) = x := ⟨_, rfl⟩
        have HSB := Lib.hid hsb
        clear hsb
        go_upto_region 21 with fail
        go_cut [100] from 91 to 99 (fun bv wx => bv = .bool sb ∧ wx = wr)
        case first =>
          by_cases hs : s = []
          · have hc := HNC.out.1 hs
            have hb : sb = false := by rw [← HSB.out, hs]; rfl
            subst hb
            by_cases hl2 : 2 < nm.length
            · have hl2I : (2 : Int) < nm.length := by omega
              clear hs
              go_wp2
              go_meet
              case rel => exact ⟨by rw [take_two nm, hc], rfl⟩
            · have hl2I : (nm.length : Int) ≤ 2 := by omega
              clear hs
              go_wp2
              go_meet
              case rel => exact ⟨rfl, rfl⟩
          · obtain ⟨hl2, hc, hns⟩ := HNC.out.2 hs
            have hl2I : (2 : Int) < nm.length := by omega
            have hb : sb = true := by rw [← HSB.out]; simpa using hs
            subst hb
            clear hs hns
            go_wp2
            go_meet
            case rel => exact ⟨by rw [take_two nm, hc], rfl⟩
        case rest =>
          obtain ⟨rfl, hwc⟩ := hcut
          rw [hwc]
          clear hwc
          go_upto_if 100 with fail
          go_cut [15] from 101 to 102 (fun pv wx => pv = .string (B s) ∧ wx = wr)
          case first =>
            by_cases hs : s = []
            · have hb : sb = false := by rw [← HSB.out, hs]; rfl
              subst hb
              subst hs
              go_wp2
              go_meet
              case rel => exact ⟨rfl, rfl⟩
            · obtain ⟨_, _, hns⟩ := HNC.out.2 hs
              have hb : sb = true := by rw [← HSB.out]; simpa using hs
              subst hb
              subst hns
              clear hs
              go_wp2
              go_meet
              case rel => exact ⟨rfl, rfl⟩
          case rest =>
            obtain ⟨rfl, hwc⟩ := hcut
            rw [hwc]
            clear hwc
            have oc0 := K1.out.cell 0 _ rfl
            have of0 := K1.out.free 0
            have oc1 := K1.out.cell 1 _ rfl
            have of1 := K1.out.free 1
            have oz := K1.out.lt
            go_wp2_with fail
            refine (CK.out _).mono ?_
            rintro e w6 ⟨rfl, hn6⟩
            have K1 := Lib.hid (K1.out.nx hn6)
            have K2 := Lib.hid (K2.out.nx hn6)
            have K3 := Lib.hid (K3.out.nx hn6)
            have K12 := Lib.hid (K12.out.nx hn6)
            have HN := Lib.hid (HN.out.trans hn6)
            clear hn6 ac0 af0 ac1 af1 ac2 af2 ac3 af3 ac4 af4 az oc0 of0 oc1 of1 oz bc0 bf0 bc1 bf1 bc2 bf2 bc3 bf3 bc4 bf4 bc5 bf5 bc6 bf6 bc7 bf7 bz
            have le6 : w.heap.size ≤ w6.heap.size := HN.out.size
            have le2 : w.heap.size ≤ w.heap.size + 1 + 1 := by omega
            have le3 : w.heap.size ≤ w.heap.size + 1 + 1 + 1 := by omega
            have ne1 : w.heap.size + 1 ≠ w6.heap.size := by have := K1.out.lt; omega
            have ne2 : w.heap.size + 1 + 1 ≠ w6.heap.size := by have := K2.out.lt; omega
            have ne3 : w.heap.size + 1 + 1 + 1 ≠ w6.heap.size := by have := K3.out.lt; omega
            have bc0 := K12.out.cell 0 _ rfl
            have bf0 := K12.out.free 0
            have bc1 := K12.out.cell 1 _ rfl
            have bf1 := K12.out.free 1
            have bc2 := K12.out.cell 2 _ rfl
            have bf2 := K12.out.free 2
            have bc3 := K12.out.cell 3 _ rfl
            have bf3 := K12.out.free 3
            have bc4 := K12.out.cell 4 _ rfl
            have bf4 := K12.out.free 4
            have bc5 := K12.out.cell 5 _ rfl
            have bf5 := K12.out.free 5
            have bc6 := K12.out.cell 6 _ rfl
            have bf6 := K12.out.free 6
            have bc7 := K12.out.cell 7 _ rfl
            have bf7 := K12.out.free 7
            have bz := K12.out.lt
            have oc0 := K1.out.cell 0 _ rfl
            have of0 := K1.out.free 0
            have oc1 := K1.out.cell 1 _ rfl
            have of1 := K1.out.free 1
            have oz := K1.out.lt
            go_upto_if 112 with fail
            go_cut [17] from 113 to 120 (fun bv wx => bv = .bool true ∧ ∃ kd num A m c, Has wx w6.heap.size (itO kd 0 0 [] ⟨op, rd, rs1, rs2, imm⟩ s (szS s) (.slice A m c) num false false) ∧ LateIs i s wA kd num (.slice A m c) ∧ Has wx (w.heap.size + 1) (optO true false) ∧ Has wx (w.heap.size + 1 + 1) (optO false false) ∧ Has wx (w.heap.size + 1 + 1 + 1) fltO ∧ Nx w wx)
            case first =>
              rcases HOR.out with ⟨h106, hl⟩ | ⟨h106, hl, hh, q, hqm2, hqv, hqn⟩
              · subst hl
                have HL6 := Lib.hid (show LateIs i s wA 2 0 (.slice none 0 0) from ⟨⟨_, _, _, rfl⟩, Or.inl ⟨h106, rfl⟩⟩)
                go_wp2
                go_meet
                case rel => with_reducible exact ⟨rfl, 2, 0, none, 0, 0, Has.new _ _, HL6.out, K1.out.alloc _, K2.out.alloc _, K3.out.alloc _, HN.out.alloc _⟩
              · subst hl hh
                have HL6 := Lib.hid (show LateIs i s wA 3 2 (.slice An mn cn) from ⟨⟨_, _, _, rfl⟩, Or.inr ⟨h106, rfl, rfl, q.ns, by rw [hqv]; exact (HA0.out.2 q hqm2).1, by rw [(HA0.out.2 q hqm2).2.1, hqn]⟩⟩)
                clear hqv hqn hqm2
                go_wp2_with fail
                with_reducible refine (CH.out h106 _).mono ?_
                rintro e w8 ⟨rfl, hn8⟩
                with_reducible have K16 := Lib.hid (Has.nx (Has.new w6 (itO 2 0 0 [] ⟨op, rd, rs1, rs2, imm⟩ s (szS s) (.slice none 0 0) 0 false false)) hn8)
                have HT := Lib.hid (Has.there K16.out)
                have HX8 := Lib.hid (Nx.trans ((Nx.refl w6).alloc _) hn8)
                clear hn8 bc0 bf0 bc1 bf1 bc2 bf2 bc3 bf3 bc4 bf4 bc5 bf5 bc6 bf6 bc7 bf7 bz oc0 of0 oc1 of1 oz
                go_wp2_with (refine wpList_store_mid (by rfl) 47 _ _ (by rfl) w6.heap.size 0 (itC 3 0 0 [] ⟨op, rd, rs1, rs2, imm⟩ s (szS s) (.slice An mn cn) 2 false false).toArray (by rfl) (by rfl) HT.out item_size (item_one _ _ _ _ _ _ _ _ _ _ _ _ _) ?_)
                go_meet
                case rel => exact ⟨rfl, 3, 2, An, mn, cn, K16.out.puts rfl, HL6.out, Has.farCells ne1 _ _ _ (K1.out.nx HX8.out), Has.farCells ne2 _ _ _ (K2.out.nx HX8.out), Has.farCells ne3 _ _ _ (K3.out.nx HX8.out), Nx.setCells (HN.out.trans HX8.out) le6 _⟩
            case rest =>
              obtain ⟨rfl, kd, num, A6, m6, c6, h16, hlt, h1, h2, h3, hnx⟩ := hcut
              have K16 := Lib.hid h16
              have K1 := Lib.hid h1
              have K2 := Lib.hid h2
              have K3 := Lib.hid h3
              have HN := Lib.hid hnx
              have HLT := Lib.hid hlt
              clear h16 h1 h2 h3 hnx hlt bc0 bf0 bc1 bf1 bc2 bf2 bc3 bf3 bc4 bf4 bc5 bf5 bc6 bf6 bc7 bf7 bz oc0 of0 oc1 of1 oz
              have mc0 := K16.out.cell 0 _ rfl
              have mf0 := K16.out.free 0
              have mc1 := K16.out.cell 1 _ rfl
              have mf1 := K16.out.free 1
              have mc2 := K16.out.cell 2 _ rfl
              have mf2 := K16.out.free 2
              have mc3 := K16.out.cell 3 _ rfl
              have mf3 := K16.out.free 3
              have mc4 := K16.out.cell 4 _ rfl
              have mf4 := K16.out.free 4
              have mc5 := K16.out.cell 5 _ rfl
              have mf5 := K16.out.free 5
              have mc6 := K16.out.cell 6 _ rfl
              have mf6 := K16.out.free 6
              have mc7 := K16.out.cell 7 _ rfl
              have mf7 := K16.out.free 7
              have mc8 := K16.out.cell 8 _ rfl
              have mf8 := K16.out.free 8
              have mc9 := K16.out.cell 9 _ rfl
              have mf9 := K16.out.free 9
              have mc10 := K16.out.cell 10 _ rfl
              have mf10 := K16.out.free 10
              have mc11 := K16.out.cell 11 _ rfl
              have mf11 := K16.out.free 11
              have mc12 := K16.out.cell 12 _ rfl
              have mf12 := K16.out.free 12
              have mc13 := K16.out.cell 13 _ rfl
              have mf13 := K16.out.free 13
              have mc14 := K16.out.cell 14 _ rfl
              have mf14 := K16.out.free 14
              have mz := K16.out.lt
              have oc0 := K1.out.cell 0 _ rfl
              have of0 := K1.out.free 0
              have oc1 := K1.out.cell 1 _ rfl
              have of1 := K1.out.free 1
              have oz := K1.out.lt
              have pc0 := K2.out.cell 0 _ rfl
              have pf0 := K2.out.free 0
              have pc1 := K2.out.cell 1 _ rfl
              have pf1 := K2.out.free 1
              have pz := K2.out.lt
              have qc0 := K3.out.cell 0 _ rfl
              have qf0 := K3.out.free 0
              have qc1 := K3.out.cell 1 _ rfl
              have qf1 := K3.out.free 1
              have qc2 := K3.out.cell 2 _ rfl
              have qf2 := K3.out.free 2
              have qz := K3.out.lt
              have yb0n0 : w.heap.size + 1 ≠ wc.heap.size := by omega
              have yb0l1 : w.heap.size + 1 < wc.heap.size + 1 := by omega
              have yb0n1 : w.heap.size + 1 ≠ wc.heap.size + 1 := by omega
              have yb0l2 : w.heap.size + 1 < wc.heap.size + 1 + 1 := by omega
              have yb0n2 : w.heap.size + 1 ≠ wc.heap.size + 1 + 1 := by omega
              have yb1n0 : w.heap.size + 1 + 1 ≠ wc.heap.size := by omega
              have yb1l1 : w.heap.size + 1 + 1 < wc.heap.size + 1 := by omega
              have yb1n1 : w.heap.size + 1 + 1 ≠ wc.heap.size + 1 := by omega
              have yb1l2 : w.heap.size + 1 + 1 < wc.heap.size + 1 + 1 := by omega
              have yb1n2 : w.heap.size + 1 + 1 ≠ wc.heap.size + 1 + 1 := by omega
              have yb2n0 : w.heap.size + 1 + 1 + 1 ≠ wc.heap.size := by omega
              have yb2l1 : w.heap.size + 1 + 1 + 1 < wc.heap.size + 1 := by omega
              have yb2n1 : w.heap.size + 1 + 1 + 1 ≠ wc.heap.size + 1 := by omega
              have yb2l2 : w.heap.size + 1 + 1 + 1 < wc.heap.size + 1 + 1 := by omega
              have yb2n2 : w.heap.size + 1 + 1 + 1 ≠ wc.heap.size + 1 + 1 := by omega
              have mz1 : w6.heap.size < wc.heap.size + 1 := by omega
              have mn0 : w6.heap.size ≠ wc.heap.size := by omega
              go_wp2_with fail
              go_region_with (fail)
              all_goals
                go_wp2
                refine bodyPost_ret (v := .tuple #[.slice (some ⟨wc.heap.size, 0, none⟩) 1 1, optV true false, fltV]) (by simp [results, Tryz.results24, go_sem, pc0, pf0, pc1, pf1, pz, qc0, qf0, qc1, qf1, qc2, qf2, qz, yb1l1, yb1l2, yb1n0, yb1n1, yb1n2, yb2l1, yb2l2, yb2n0, yb2n1, yb2n2]) rfl ?_
                exact ⟨_, kd, num, .slice A6 m6 c6, rfl, by repeat (with_reducible first | exact HN.out | refine Nx.setCell ?_ le2 _ | refine Nx.setCell ?_ le3 _ | refine Nx.alloc ?_ _ | refine Nx.drew ?_), by have := HN.out.size; omega, by (rw [← HKI.out]; with_reducible (first | exact Has.at_ _ _ (by simp) | exact Has.nx (Has.at_ _ _ (by simp)) ((Nx.refl _).drew))), HLT.out⟩

end Go.Proofs.YtdgmdkkockbkjaaGreatDoor

/- Contract of typecaseref17.Lower, at a text's statement. -/
namespace Go.Proofs.YtdgmdkkockbkjaaGreatDoor
open Go.RowKit
set_option linter.unusedVariables false
set_option linter.unusedSimpArgs false

theorem LateIs.nx {i : In5} {s : List UInt8} {w w' : World} {kd num : Int} {nv : Value} (h : LateIs i s w kd num nv) (hn : Nx w w') : LateIs i s w' kd num nv := by
  obtain ⟨h1, h2⟩ := h
  refine ⟨h1, ?_⟩
  rcases h2 with h2 | ⟨a, b, c, ns, d, e⟩
  · exact Or.inl h2
  · exact Or.inr ⟨a, b, c, ns, d.nx hn, e⟩

theorem OwnC.low {w : World} {base b : Nat} {e : TypeId} {size : Nat} {v : Value} {n : Nat} {xs : List Value} (h : OwnC w base e size v n xs) (hb : b ≤ base) : OwnC w b e size v n xs := by
  refine ⟨h.1, ?_⟩
  rcases h.2 with h1 | ⟨g, cap, cur, h1, h2, h3⟩
  · exact Or.inl h1
  · exact Or.inr ⟨g, cap, cur, h1, Nat.le_trans hb h2, h3⟩

/-- What comes of Lower: one item. -/
def RetLow (i : In5) (s : List UInt8) (w : World) (e : Ending) (w' : World) : Prop :=
  ∃ av kd ln cl num nv, e = .returned (.tuple #[av, optV true false, fltV]) ∧ Nx w w' ∧ OwnC w' w.heap.size 47 15 av 1 (itC kd ln cl [] (endI i s) s (szS s) nv num false false) ∧ LateIs i s w kd num nv

theorem item_info : (Tryz.prog.info? 47).map (fun i => (i.zero, i.size, i.bytes)) = some (some (itV 0 0 0 [] ⟨0, 0, 0, 0, 0⟩ [] 0 (.slice none 0 0) 0 false false), 15, 136) := by kernel_rfl

theorem item_ones (kd ln cl : Int) (nm : List UInt8) (i : In5) (s : List UInt8) (sz : Int) (A : Option Addr) (m c : Nat) (num : Int) (a b : Bool) : ∀ u ∈ itC kd ln cl nm i s sz (.slice A m c) num a b, u.oneCell' = true := by
  intro u hu
  simp only [itC, List.mem_cons, List.not_mem_nil, or_false] at hu
  rcases hu with rfl | rfl | rfl | rfl | rfl | rfl | rfl | rfl | rfl | rfl | rfl | rfl | rfl | rfl | rfl <;> rfl

theorem has_row {w : World} {g : Nat} {T : TypeId} {cs : List Value} {fz : Nat × Nat} (h : Has w g (.cells cs.toArray T fz)) : ∀ (j : Nat) (u : Value), cs[j]? = some u → w.cell? ((⟨g, 0, none⟩ : Addr).add j) = some u := fun j u hu => by
  rw [add_flat, Nat.zero_add]
  exact h.cell j u (by simpa using hu)

/-- What holds at the head of the second loop. -/
def LowRel (i : In5) (s : List UInt8) (nm : List UInt8) (ln cl : Int) (av : Value) (kd num : Int) (nv : Value) (g H : Nat) (w wr : World) (jv : Value) : Prop :=
  ∃ (j : Nat) (a b : Int), jv = .int .i64 j ∧ ((j = 0 ∧ a = 0 ∧ b = 0) ∨ (j = 1 ∧ ln = a ∧ cl = b)) ∧ Has wr g (itO kd a b [] (endI i s) s (szS s) nv num false false) ∧ Has wr w.heap.size (stmO nm ln cl av) ∧ Has wr (w.heap.size + 1 + 1) (optO false false) ∧ Has wr (w.heap.size + 1 + 1 + 1) fltO ∧ Has wr H (optO true false) ∧ Nx w wr

set_option maxHeartbeats 16000000 in
set_option maxRecDepth 100000 in
theorem lower_any (i : In5) (s : List UInt8) (hok : okT i s = true) (hi0 : -2147483648 ≤ i.imm) (hi1 : i.imm ≤ 2147483647) (ln cl : Int) (av : Value) (qs : List Arg) (base : Nat) (w : World) (hA : OwnA w base av qs) (hq : qs.map Arg.o = (lsT i s).map fun c => opO c i) :
    Calls Tryz.prog 8 #[stmV (nmT i s) ln cl av, optV true false, .slice none 0 0] w (RetLow i s w) := by
  have CI := Lib.hid (fun w' (hn : Nx w w') => items_any i s hok hi0 hi1 ln cl av qs base w w' hA hn hq)
  have hne : ((nmT i s) == []) = false := by
    have := (nm_pos i s hok).1
    simpa using this
  obtain ⟨nm, hnm⟩ : ∃ x, nmT i s = x := ⟨_, rfl⟩
  rw [hnm] at CI hne ⊢
  obtain ⟨Av, cv, rfl⟩ := hA.form
  obtain ⟨nq, hnq⟩ : ∃ x, qs.length = x := ⟨_, rfl⟩
  rw [hnq] at CI ⊢
  clear hA hq hnm hnq
  go_enter Tryz.func8, Tryz.ntmps8
  go_wp2
  go_loopw [9, 10] (fun ov jv wr => ov = .slice none 0 0 ∧ jv = .int .i64 0 ∧ Has wr w.heap.size (stmO nm ln cl (.slice Av nq cv)) ∧ Has wr (w.heap.size + 1) (optO true false) ∧ Has wr (w.heap.size + 1 + 1) (optO false false) ∧ Has wr (w.heap.size + 1 + 1 + 1) fltO ∧ Nx w wr) (fun _ _ _ => 0)
  case atStart =>
    obtain ⟨k0, k1, k2, k3, hx⟩ := four_boxes (Nx.refl ((((w.alloc (stmO nm ln cl (.slice Av nq cv))).alloc (optO true false)).alloc (optO false false)).alloc fltO))
    exact ⟨rfl, rfl, k0, k1, k2, k3, hx⟩
  case round =>
    obtain ⟨rfl, rfl, k0, k1, k2, k3, hx⟩ := hrel
    have K0 := Lib.hid k0
    have K1 := Lib.hid k1
    have K2 := Lib.hid k2
    have K3 := Lib.hid k3
    have HN := Lib.hid hx
    have hsz : w.heap.size + 4 ≤ wr.heap.size := by have := k3.lt; omega
    clear k0 k1 k2 k3 hx
    have ac0 := K0.out.cell 0 _ rfl
    have af0 := K0.out.free 0
    have ac1 := K0.out.cell 1 _ rfl
    have af1 := K0.out.free 1
    have ac2 := K0.out.cell 2 _ rfl
    have af2 := K0.out.free 2
    have ac3 := K0.out.cell 3 _ rfl
    have af3 := K0.out.free 3
    have ac4 := K0.out.cell 4 _ rfl
    have af4 := K0.out.free 4
    have az := K0.out.lt
    have oc0 := K1.out.cell 0 _ rfl
    have of0 := K1.out.free 0
    have oc1 := K1.out.cell 1 _ rfl
    have of1 := K1.out.free 1
    have oz := K1.out.lt
    have uc0 := K2.out.cell 0 _ rfl
    have uf0 := K2.out.free 0
    have uc1 := K2.out.cell 1 _ rfl
    have uf1 := K2.out.free 1
    have uz := K2.out.lt
    have vc0 := K3.out.cell 0 _ rfl
    have vf0 := K3.out.free 0
    have vc1 := K3.out.cell 1 _ rfl
    have vf1 := K3.out.free 1
    have vc2 := K3.out.cell 2 _ rfl
    have vf2 := K3.out.free 2
    have vz := K3.out.lt
    go_wp2_with fail
    refine (CI.out wr HN.out).mono ?_
    rintro e w3 ⟨g, kd, num, nv, rfl, hn3, hg, h16, hl⟩
    obtain ⟨A6, m6, c6, rfl⟩ := hl.1
    have KK := Lib.hid h16
    have HL := Lib.hid hl
    have HN := Lib.hid (HN.out.trans hn3)
    have K0 := Lib.hid (K0.out.nx hn3)
    have K1 := Lib.hid (K1.out.nx hn3)
    have K2 := Lib.hid (K2.out.nx hn3)
    have K3 := Lib.hid (K3.out.nx hn3)
    have hg4 : w.heap.size + 4 ≤ g := by omega
    have hg3 : g < w3.heap.size := KK.out.lt
    clear hn3 hg h16 hl hsz ac0 af0 ac1 af1 ac2 af2 ac3 af3 ac4 af4 az oc0 of0 oc1 of1 oz uc0 uf0 uc1 uf1 uz vc0 vf0 vc1 vf1 vc2 vf2 vz
    have dn0 : g ≠ w.heap.size := by omega
    have dn2 : g ≠ w.heap.size + 1 + 1 := by omega
    have dn3 : g ≠ w.heap.size + 1 + 1 + 1 := by omega
    have dnH : g ≠ w3.heap.size := by omega
    have dnI : g ≠ w3.heap.size + 1 := by omega
    have bs : w.heap.size ≤ g := by omega
    have ac0 := K0.out.cell 0 _ rfl
    have af0 := K0.out.free 0
    have ac1 := K0.out.cell 1 _ rfl
    have af1 := K0.out.free 1
    have ac2 := K0.out.cell 2 _ rfl
    have af2 := K0.out.free 2
    have ac3 := K0.out.cell 3 _ rfl
    have af3 := K0.out.free 3
    have ac4 := K0.out.cell 4 _ rfl
    have af4 := K0.out.free 4
    have az := K0.out.lt
    have oc0 := K1.out.cell 0 _ rfl
    have of0 := K1.out.free 0
    have oc1 := K1.out.cell 1 _ rfl
    have of1 := K1.out.free 1
    have oz := K1.out.lt
    have uc0 := K2.out.cell 0 _ rfl
    have uf0 := K2.out.free 0
    have uc1 := K2.out.cell 1 _ rfl
    have uf1 := K2.out.free 1
    have uz := K2.out.lt
    have vc0 := K3.out.cell 0 _ rfl
    have vf0 := K3.out.free 0
    have vc1 := K3.out.cell 1 _ rfl
    have vf1 := K3.out.free 1
    have vc2 := K3.out.cell 2 _ rfl
    have vf2 := K3.out.free 2
    have vz := K3.out.lt
    go_wp2
    go_loopw [14] (fun jv wr => LowRel i s nm ln cl (.slice Av nq cv) kd num (.slice A6 m6 c6) g w3.heap.size w wr jv) (fun jv _ => 2 - (intOf jv).toNat)
    case atStart => exact ⟨0, 0, 0, rfl, Or.inl ⟨rfl, rfl, rfl⟩, (KK.out.alloc _).alloc _, (K0.out.alloc _).alloc _, (K2.out.alloc _).alloc _, (K3.out.alloc _).alloc _, (Has.new w3 (optO true false)).alloc _, (HN.out.alloc _).alloc _⟩
    case round =>
      obtain ⟨j, a, b, rfl, hj, h16, h0, h2, h3, hp, hnx⟩ := hrel
      have HK := Lib.hid h16
      have K0 := Lib.hid h0
      have K2 := Lib.hid h2
      have K3 := Lib.hid h3
      have KP := Lib.hid hp
      have HN := Lib.hid hnx
      clear h16 h0 h2 h3 hp hnx KK
      rcases hj with ⟨rfl, rfl, rfl⟩ | ⟨rfl, rfl, rfl⟩
      · clear ac0 af0 ac1 af1 ac2 af2 ac3 af3 ac4 af4 az oc0 of0 oc1 of1 oz uc0 uf0 uc1 uf1 uz vc0 vf0 vc1 vf1 vc2 vf2 vz
        have ac0 := K0.out.cell 0 _ rfl
        have af0 := K0.out.free 0
        have ac1 := K0.out.cell 1 _ rfl
        have af1 := K0.out.free 1
        have ac2 := K0.out.cell 2 _ rfl
        have af2 := K0.out.free 2
        have ac3 := K0.out.cell 3 _ rfl
        have af3 := K0.out.free 3
        have ac4 := K0.out.cell 4 _ rfl
        have af4 := K0.out.free 4
        have az := K0.out.lt
        have kc0 := HK.out.cell 0 _ rfl
        have kf0 := HK.out.free 0
        have kc1 := HK.out.cell 1 _ rfl
        have kf1 := HK.out.free 1
        have kc2 := HK.out.cell 2 _ rfl
        have kf2 := HK.out.free 2
        have kc3 := HK.out.cell 3 _ rfl
        have kf3 := HK.out.free 3
        have kc4 := HK.out.cell 4 _ rfl
        have kf4 := HK.out.free 4
        have kc5 := HK.out.cell 5 _ rfl
        have kf5 := HK.out.free 5
        have kc6 := HK.out.cell 6 _ rfl
        have kf6 := HK.out.free 6
        have kc7 := HK.out.cell 7 _ rfl
        have kf7 := HK.out.free 7
        have kc8 := HK.out.cell 8 _ rfl
        have kf8 := HK.out.free 8
        have kc9 := HK.out.cell 9 _ rfl
        have kf9 := HK.out.free 9
        have kc10 := HK.out.cell 10 _ rfl
        have kf10 := HK.out.free 10
        have kc11 := HK.out.cell 11 _ rfl
        have kf11 := HK.out.free 11
        have kc12 := HK.out.cell 12 _ rfl
        have kf12 := HK.out.free 12
        have kc13 := HK.out.cell 13 _ rfl
        have kf13 := HK.out.free 13
        have kc14 := HK.out.cell 14 _ rfl
        have kf14 := HK.out.free 14
        have kz := HK.out.lt
        go_wp2
        go_roundw
        case rel => exact ⟨1, ln, cl, by go_num, Or.inr ⟨rfl, rfl, rfl⟩, (HK.out.put 1 (.int .i64 ln)).put 2 (.int .i64 cl), (K0.out.far (p := ⟨g, 1, none⟩) dn0.symm _).far (p := ⟨g, 2, none⟩) dn0.symm _, (K2.out.far (p := ⟨g, 1, none⟩) dn2.symm _).far (p := ⟨g, 2, none⟩) dn2.symm _, (K3.out.far (p := ⟨g, 1, none⟩) dn3.symm _).far (p := ⟨g, 2, none⟩) dn3.symm _, (KP.out.far (p := ⟨g, 1, none⟩) dnH.symm _).far (p := ⟨g, 2, none⟩) dnH.symm _, (HN.out.setCell (p := ⟨g, 1, none⟩) bs _).setCell (p := ⟨g, 2, none⟩) bs _⟩
        case measure => simp [intOf]
      · clear ac0 af0 ac1 af1 ac2 af2 ac3 af3 ac4 af4 az oc0 of0 oc1 of1 oz uc0 uf0 uc1 uf1 uz vc0 vf0 vc1 vf1 vc2 vf2 vz
        have hws : w.heap.size ≤ wr.heap.size := HN.out.size
        have lt2 : w.heap.size + 1 + 1 < wr.heap.size := K2.out.lt
        have lt3 : w.heap.size + 1 + 1 + 1 < wr.heap.size := K3.out.lt
        have le2 : w.heap.size ≤ w.heap.size + 1 + 1 := by omega
        have le3 : w.heap.size ≤ w.heap.size + 1 + 1 + 1 := by omega
        obtain ⟨i0, hi, hz0, hz1, hz2⟩ := info_parts item_info
        have HI := Lib.hid (And.intro hi (And.intro hz0 (And.intro hz1 hz2)))
        clear hi hz0 hz1 hz2
        obtain ⟨hi, hz0, hz1, hz2⟩ := HI.out
        have uc0 := K2.out.cell 0 _ rfl
        have uf0 := K2.out.free 0
        have uc1 := K2.out.cell 1 _ rfl
        have uf1 := K2.out.free 1
        have uz := K2.out.lt
        have vc0 := K3.out.cell 0 _ rfl
        have vf0 := K3.out.free 0
        have vc1 := K3.out.cell 1 _ rfl
        have vf1 := K3.out.free 1
        have vc2 := K3.out.cell 2 _ rfl
        have vf2 := K3.out.free 2
        have vz := K3.out.lt
        have xc0 := KP.out.cell 0 _ rfl
        have xf0 := KP.out.free 0
        have xc1 := KP.out.cell 1 _ rfl
        have xf1 := KP.out.free 1
        have xz := KP.out.lt
        go_wp2_with fail
        go_region_law ((refine step_append_c _ rfl _ _ 40 rfl wr.heap.size 47 i0 (itV 0 0 0 [] ⟨0, 0, 0, 0, 0⟩ [] 0 (.slice none 0 0) 0 false false) 15 136 Tryz.underlying40 hi hz0 hz1 hz2 rfl (by decide) (.slice none 0 0) 0 [] (by rfl) (OwnC.nil _ _ _ _) (some ⟨g, 0, none⟩) 1 1 (itC kd ln cl [] (endI i s) s (szS s) (.slice A6 m6 c6) num false false) (by rfl) rfl (Or.inr ⟨_, rfl, has_row (HK.out.nx (by with_reducible first | exact (Nx.refl _).drew | exact Nx.refl _))⟩) (item_ones _ _ _ _ _ _ _ _ _ _ _ _ _) (by unfold maxLen; decide) (by decide) (by first | exact Nat.le_refl _ | simp) ?_; intro v2 w2 hown2 hgr2 hbl2; have hm2 : Nx wr w2 := nx_app (by with_reducible first | exact (Nx.refl _).drew | exact Nx.refl _) hgr2 (fun g hg => by cases hg); have K2 := Lib.hid (K2.out.nx hm2); have K3 := Lib.hid (K3.out.nx hm2); have KP := Lib.hid (KP.out.nx hm2); have uc0 := K2.out.cell 0 _ rfl; have uf0 := K2.out.free 0; have uc1 := K2.out.cell 1 _ rfl; have uf1 := K2.out.free 1; have uz := K2.out.lt; have vc0 := K3.out.cell 0 _ rfl; have vf0 := K3.out.free 0; have vc1 := K3.out.cell 1 _ rfl; have vf1 := K3.out.free 1; have vc2 := K3.out.cell 2 _ rfl; have vf2 := K3.out.free 2; have vz := K3.out.lt; have xc0 := KP.out.cell 0 _ rfl; have xf0 := KP.out.free 0; have xc1 := KP.out.cell 1 _ rfl; have xf1 := KP.out.free 1; have xz := KP.out.lt))
        all_goals
          have hown3 : OwnC w2 wr.heap.size 47 15 v2 1 (itC kd ln cl [] (endI i s) s (szS s) (.slice A6 m6 c6) num false false) := hown2
          have HOW := Lib.hid hown3
          have HM := Lib.hid hm2
          obtain ⟨A9, c9, hv9⟩ := hown3.form
          subst hv9
          clear hown2 hown3 hgr2 hbl2 hm2
          go_wp2
          refine bodyPost_ret (v := .tuple #[.slice A9 1 c9, optV true false, fltV]) (by simp [results, Tryz.results8, go_sem, uc0, uf0, uc1, uf1, uz, vc0, vf0, vc1, vf1, vc2, vf2, vz]) rfl ?_
          exact ⟨_, kd, ln, cl, num, _, rfl, by repeat (with_reducible first | exact HN.out.trans HM.out | refine Nx.setCell ?_ le2 _ | refine Nx.setCell ?_ le3 _), (by repeat (with_reducible first | exact HOW.out | refine own_set ?_ (by first | exact lt2 | exact lt3) _) : OwnC _ wr.heap.size _ _ _ _ _).low hws, HL.out⟩

end Go.Proofs.YtdgmdkkockbkjaaGreatDoor

/- Contract of typecaseref23.operand. -/
namespace Go.Proofs.YtdgmdkkockbkjaaGreatDoor
open Go.RowKit
set_option linter.unusedVariables false
set_option linter.unusedSimpArgs false

end Go.Proofs.YtdgmdkkockbkjaaGreatDoor

/- Contract of typecaseref23.Text. -/
namespace Go.Proofs.YtdgmdkkockbkjaaGreatDoor
open Go.RowKit
set_option linter.unusedVariables false
set_option linter.unusedSimpArgs false

theorem jal_two : ((List.range 49).all fun k => (letF (formN k)).length == 2 || (!(nmB.getD k [] == [106, 97, 108]) && !(nmB.getD k [] == [106, 97, 108, 114]))) = true := by decide +kernel

theorem jal_at (k : Nat) (hk : k < 49) (h : ¬ (letF (formN k)).length = 2) : (nmB.getD k [] == [106, 97, 108]) = false ∧ (nmB.getD k [] == [106, 97, 108, 114]) = false := by
  have := List.all_eq_true.1 jal_two k (List.mem_range.2 hk)
  rw [Bool.or_eq_true] at this
  rcases this with h1 | h1
  · exact absurd (beq_iff_eq.1 h1) h
  · rw [Bool.and_eq_true] at h1
    exact ⟨by simpa using h1.1, by simpa using h1.2⟩

theorem q_ne : ((List.range 49).all fun k => !(([63] : List UInt8) == letF (formN k))) = true := by decide +kernel

theorem q_at (k : Nat) (hk : k < 49) : ¬ ([63] : List UInt8) = letF (formN k) := by
  have := List.all_eq_true.1 q_ne k (List.mem_range.2 hk)
  intro h
  rw [h] at this
  simp at this

end Go.Proofs.YtdgmdkkockbkjaaGreatDoor

