/- Contracts of typecaseref13: End. -/
import Derived.Test.YtbkgdepblaibkaaDoorBlky
import Derived.Test.YtbkgdepblaibkaaDoorBlkz
import Derived.Test.YtbkgdepblaibkaaDoorHas
namespace Go.Proofs.YtbkgdepblaibkaaDoor
open Go.RowKit
set_option linter.unusedVariables false
set_option linter.unusedSimpArgs false

/-- What the document tells of an end. -/
def endV : BRes → Value
  | .ok x y => .tuple #[.int .i64 x, .int .i64 y, .agg #[.int .i64 0, .int .i64 0, .int .i64 0]]
  | .bad l c => .tuple #[.int .i64 0, .int .i64 0, .agg #[.int .i64 l, .int .i64 c, .int .i64 15]]

def kC (st : List (Nat × Int)) : List Value := st.reverse.map fun p => .int .i64 (p.1 : Nat)

def eC (st : List (Nat × Int)) : List Value := st.reverse.map fun p => .int .i64 p.2

theorem kC_cons (a : Nat × Int) (st : List (Nat × Int)) : kC (a :: st) = kC st ++ [.int .i64 (a.1 : Nat)] := by unfold kC; simp

theorem eC_cons (a : Nat × Int) (st : List (Nat × Int)) : eC (a :: st) = eC st ++ [.int .i64 a.2] := by unfold eC; simp

theorem kC_len (st : List (Nat × Int)) : (kC st).length = st.length := by unfold kC; simp

theorem eC_len (st : List (Nat × Int)) : (eC st).length = st.length := by unfold eC; simp

theorem kC_top (k : Nat) (e : Int) (st : List (Nat × Int)) : (kC ((k, e) :: st))[st.length]? = some (.int .i64 k) ∧ (kC ((k, e) :: st)).take st.length = kC st := by
  rw [kC_cons]
  have := kC_len st
  refine ⟨?_, ?_⟩
  · rw [List.getElem?_append_right (by omega), this]; simp
  · rw [← this, List.take_left]

theorem eC_top (k : Nat) (e : Int) (st : List (Nat × Int)) : (eC ((k, e) :: st))[st.length]? = some (.int .i64 e) ∧ (eC ((k, e) :: st)).take st.length = eC st ∧ ∀ x : Int, (eC ((k, e) :: st)).set st.length (.int .i64 x) = eC ((k, x) :: st) := by
  rw [eC_cons]
  have := eC_len st
  refine ⟨?_, ?_, fun x => ?_⟩
  · rw [List.getElem?_append_right (by omega), this]; simp
  · rw [← this, List.take_left]
  · rw [eC_cons, List.set_append, if_neg (by omega), this]; simp

theorem badAt_form (l : List Tok) : ∃ a b, badAt l = .bad a b := by cases l <;> exact ⟨_, _, rfl⟩

theorem at_v (v : Value) (l : List Tok) (a b k : Int) (w : World) (hT : Toks w v l) (h : badAt l = .bad a b) : Calls Tryd.prog 46 #[v, .int .i64 k] w fun e w' => e = .returned (.agg #[.int .i64 a, .int .i64 b, .int .i64 k]) ∧ Nx w w' := by
  have := at_any v l k w hT
  rw [h] at this
  exact this

theorem int_info : (Tryd.prog.info? 3).map (fun i => (i.zero, i.size, i.bytes)) = some (some (.int .i64 0), 1, 8) := by kernel_rfl

theorem Has.grown {w w' : World} {g : Nat} {o : Obj} {row : Option Nat} (h : Has w g o) (hg : w.grownBy w' row) (hr : row ≠ some g) : Has w' g o := (hg.block g h.lt (fun e => hr e.symm)).trans h

theorem ownC_grown {w w' : World} {base : Nat} {e : TypeId} {size : Nat} {v : Value} {n : Nat} {xs : List Value} {row : Option Nat} (h : OwnC w base e size v n xs) (hg : w.grownBy w' row) (hr : ∀ x, v.ownBlock = some x → row = some x → False) : OwnC w' base e size v n xs :=
  h.kept fun k hk hv => hg.block k hk (fun e => hr k hv e.symm)

def ro0 : Obj := .cells #[.int .i64 0, .int .i64 0, .int .i64 0] 30

set_option maxHeartbeats 1000000 in
set_option maxRecDepth 100000 in
theorem rend_out (v : Value) (ls : List (List Tok)) (a : Int) (w : World) (hL : Lins w v ls) (h : a < 0 ∨ (ls.length : Int) ≤ a) :
    Calls Tryd.prog 20 #[v, .int .i64 a] w fun e w' => e = .returned (endV (endR ls a)) ∧ Nx w w' := by
  obtain ⟨A, c, rfl, hc1, hc2, hA⟩ := hL.form
  have HV := Lib.hid (show endR ls a = .bad 0 0 by unfold endR; rw [if_pos h])
  generalize endR ls a = V at *
  clear hL hA
  have HV' := HV.out
  subst HV'
  clear HV
  rcases h with h | h
  · go_enter Tryd.func20, Tryd.ntmps20
    go_wp2
    refine bodyPost_ret (v := .tuple #[.int .i64 0, .int .i64 0, .agg #[.int .i64 0, .int .i64 0, .int .i64 15]]) (by simp [results, Tryd.results20, go_sem]) rfl ⟨rfl, ?_⟩
    repeat (with_reducible first | exact Nx.refl _ | refine Nx.setCell ?_ (Nat.le_refl _) _ | refine Nx.alloc ?_ _)
  · have h0 : decide (a < 0) = false := decide_eq_false (by omega)
    go_enter Tryd.func20, Tryd.ntmps20
    go_wp2
    refine bodyPost_ret (v := .tuple #[.int .i64 0, .int .i64 0, .agg #[.int .i64 0, .int .i64 0, .int .i64 15]]) (by simp [results, Tryd.results20, go_sem]) rfl ⟨rfl, ?_⟩
    repeat (with_reducible first | exact Nx.refl _ | refine Nx.setCell ?_ (Nat.le_refl _) _ | refine Nx.alloc ?_ _)

set_option maxHeartbeats 2000000 in
set_option maxRecDepth 100000 in
theorem rend_plain (v : Value) (ls : List (List Tok)) (a : Nat) (l : List Tok) (w : World) (hL : Lins w v ls) (hl : ls[a]? = some l) (hb : begB (kindP l) = false) :
    Calls Tryd.prog 20 #[v, .int .i64 a] w fun e w' => e = .returned (endV (endR ls a)) ∧ Nx w w' := by
  obtain ⟨ha, hla⟩ := List.getElem?_eq_some_iff.1 hl
  have hgd : ls.getD a [] = l := by rw [List.getD_eq_getElem?_getD, hl]; rfl
  obtain ⟨la, lb, hbad⟩ := badAt_form l
  have HV := Lib.hid (show endR ls a = .bad la lb by unfold endR; rw [if_neg (by omega), show ((a : Int)).toNat = a by simp, hgd, if_neg (by rw [hb]; simp)]; exact hbad)
  generalize endR ls a = V at *
  have HV' := HV.out
  subst HV'
  clear HV
  obtain ⟨g, o, c, u, rfl, hc1, hcell, hT⟩ := line_at hL a l hl
  have hk := kindP_le l
  have C1 := Lib.hid (fun w2 (hn : Nx w w2) => kindR_any u l w2 (hT.nx hn))
  have C3 := Lib.hid (fun w2 (hn : Nx w w2) => at_v u l la lb 15 w2 (hT.nx hn) hbad)
  have HC := Lib.hid hcell
  have zg0 := block_lt hcell
  have hq' : kindP l = 0 ∨ kindP l = 2 ∨ kindP l = 4 ∨ kindP l = 6 ∨ kindP l = 7 := by
    have : ¬ (kindP l = 1 ∨ kindP l = 3 ∨ kindP l = 5) := fun hc => by rcases hc with h | h | h <;> rw [h] at hb <;> cases hb
    omega
  clear hL hla hgd hb hl hT hbad
  generalize kindP l = q at *
  generalize ls.length = n at *
  clear hk
  rcases hq' with rfl | rfl | rfl | rfl | rfl
  all_goals
    go_enter Tryd.func20, Tryd.ntmps20
    go_wp2_with fail
    refine (C1.out _ ((Nx.refl w).alloc _)).mono ?_
    rintro e w1 ⟨rfl, hn1⟩
    have hc2 := (((Nx.refl w).alloc _).trans hn1).cell HC.out
    have HN := Lib.hid (((Nx.refl w).alloc _).trans hn1)
    have zg := block_lt hc2
    have h0 := Lib.hid ((Has.new w ro0).nx hn1)
    clear hn1 hcell
    go_wp2_with fail
    refine (C3.out _ HN.out).mono ?_
    rintro e w2 ⟨rfl, hn2⟩
    have hh := h0.out.nx hn2
    unfold ro0 at hh
    have r0 := hh.cell 0 _ rfl
    have r1 := hh.cell 1 _ rfl
    have r2 := hh.cell 2 _ rfl
    have f0 := hh.free 0
    have f1 := hh.free 1
    have f2 := hh.free 2
    have HN2 := Lib.hid (HN.out.trans hn2)
    clear hn2 hh
    go_wp2
    refine bodyPost_ret (v := .tuple #[.int .i64 0, .int .i64 0, .agg #[.int .i64 la, .int .i64 lb, .int .i64 15]]) (by simp [results, Tryd.results20, go_sem, r0, r1, r2]) rfl ⟨rfl, ?_⟩
    repeat (with_reducible first | exact HN2.out | refine Nx.setCell ?_ (Nat.le_refl _) _ | refine Nx.alloc ?_ _)

theorem take_some {α : Type} (l : List α) (m j : Nat) (x : α) (h : (l.take m)[j]? = some x) : l[j]? = some x := by
  rw [List.getElem?_take] at h
  split at h
  · exact h
  · cases h

theorem kC_one (st : List (Nat × Int)) : ∀ u ∈ kC st, u.oneCell' = true := by
  intro u hu
  unfold kC at hu
  obtain ⟨p, _, rfl⟩ := List.mem_map.1 hu
  rfl

theorem eC_one (st : List (Nat × Int)) : ∀ u ∈ eC st, u.oneCell' = true := by
  intro u hu
  unfold eC at hu
  obtain ⟨p, _, rfl⟩ := List.mem_map.1 hu
  rfl

theorem own_new2 (w : World) (o : Obj) (base : Nat) (e : TypeId) (size : Nat) (cs : Array Value) (n : Nat) (hb : base ≤ w.heap.size + 1) (hm : n ≤ maxLen) (hs : cs.size = n * size) :
    OwnC ((w.alloc o).alloc (.cells cs e)) base e size (.slice (some ⟨w.heap.size + 1, 0, none⟩) n n) n cs.toList := by
  have h := OwnC.new (w.alloc o) base e size cs n (by simp; omega) hm hs
  rw [show (w.alloc o).heap.size = w.heap.size + 1 by simp] at h
  exact h

theorem setCell_grown (w : World) (p : Addr) (u : Value) : w.grownBy (w.setCell p u) (some p.block) :=
  ⟨rfl, rfl, rfl, by simp [World.setCell], fun k hk hne => Below.heap_setCell _ _ _ _ (fun e => hne (by rw [e]))⟩

/-- What holds at a round's head. -/
def EndRelR (fail : BRes) (ls : List (List Tok)) (w wr : World) (V : BRes) (ov ev nv : Value) : Prop :=
  ∃ (k : Nat) (st : List (Nat × Int)), k ≤ ls.length ∧ nv = .int .i64 k ∧ st ≠ [] ∧ st.length ≤ k ∧ OwnC wr (w.heap.size + 1) 3 1 ov st.length (kC st) ∧ OwnC wr (w.heap.size + 1) 3 1 ev st.length (eC st) ∧
    (∀ x, ov.ownBlock = some x → ev.ownBlock = some x → False) ∧ Has wr w.heap.size ro0 ∧ Nx w wr ∧ goR fail st k (ls.drop k) = V

set_option maxHeartbeats 16000000 in
set_option maxRecDepth 100000 in
theorem rend_in1 (v : Value) (ls : List (List Tok)) (a : Nat) (l : List Tok) (w : World) (hL : Lins w v ls) (hn : ls.length ≤ 1000000) (hl : ls[a]? = some l) (hb : kindP l = 1) :
    Calls Tryd.prog 20 #[v, .int .i64 a] w fun e w' => e = .returned (endV (endR ls a)) ∧ Nx w w' := by
  obtain ⟨i0, hi, hz0, hz1, hz2⟩ := info_parts int_info
  obtain ⟨ha, hla⟩ := List.getElem?_eq_some_iff.1 hl
  have hgd : ls.getD a [] = l := by rw [List.getD_eq_getElem?_getD, hl]; rfl
  obtain ⟨la, lb, hbad⟩ := badAt_form l
  have HV := Lib.hid (show goR (badAt l) [(kindP l, -1)] (a + 1) (ls.drop (a + 1)) = endR ls a by unfold endR; rw [if_neg (by omega), show ((a : Int)).toNat = a by simp, hgd, if_pos (by rw [hb]; rfl)])
  generalize endR ls a = V at *
  obtain ⟨g, o, c, u, rfl, hc1, hcell, hT⟩ := line_at hL a l hl
  have C1 := Lib.hid (fun w2 (hn : Nx w w2) => kindR_any u l w2 (hT.nx hn))
  have CF := Lib.hid (fun w2 (hn : Nx w w2) => at_v u l la lb 15 w2 (hT.nx hn) hbad)
  have HL := Lib.hid hL
  have HC := Lib.hid hcell
  have HBD := Lib.hid hbad
  have zg0 := block_lt hcell
  have HI := Lib.hid (And.intro hi (And.intro hz0 (And.intro hz1 hz2)))
  rw [hb] at HV C1
  clear hL hla hgd hb hl hT hi hz0 hz1 hz2 hbad
  go_enter Tryd.func20, Tryd.ntmps20
  go_wp2_with fail
  refine (C1.out _ ((Nx.refl w).alloc _)).mono ?_
  rintro e w1 ⟨rfl, hn1⟩
  have HN1 := Lib.hid (((Nx.refl w).alloc _).trans hn1)
  have h0 := Lib.hid ((Has.new w ro0).nx hn1)
  have hz1 : w.heap.size + 1 ≤ w1.heap.size := by have := hn1.size; simp at this; omega
  clear hn1 hcell
  go_wp2
  go_loopw [8, 9, 10] (fun ov ev nv wr => EndRelR (badAt l) ls w wr V ov ev nv) (fun _ _ nv _ => ls.length - (intOf nv).toNat)
  case atStart => exact ⟨a + 1, [(_, -1)], by omega, by simp, by simp, by simp, (OwnC.new w1 _ _ 1 _ 1 hz1 (by unfold maxLen; omega) rfl).alloc _, own_new2 w1 _ _ _ 1 #[.int .i64 (-1)] 1 (by omega) (by unfold maxLen; omega) rfl, (fun x hx hy => by simp [Value.ownBlock] at hx hy; omega), (h0.out.alloc _).alloc _, (HN1.out.alloc _).alloc _, HV.out⟩
  case round =>
    obtain ⟨k, st, hk1, rfl, hst, hsk, ho1, ho2, hdis, hh0, hnx, hgo⟩ := hrel
    have HNX := Lib.hid hnx
    have cat := HNX.out.cell HC.out
    have zat := block_lt cat
    by_cases hlt : k < ls.length
    · obtain ⟨lk, hlk⟩ : ∃ x, ls[k]? = some x := ⟨_, List.getElem?_eq_getElem hlt⟩
      obtain ⟨g', o', c', u2, he, _, hc2, hT2⟩ := line_at (HL.out.nx HNX.out) k lk hlk
      cases he
      have hd : ls.drop k = lk :: ls.drop (k + 1) := by
        obtain ⟨h1, e1⟩ := List.getElem?_eq_some_iff.1 hlk
        rw [List.drop_eq_getElem_cons h1, e1]
      rw [hd] at hgo
      obtain ⟨ka, kb, hbk⟩ := badAt_form lk
      have HBK := Lib.hid hbk
      have C3 := Lib.hid (kindR_any u2 lk wr hT2)
      obtain ⟨⟨tk, el⟩, rest, rfl⟩ : ∃ x r, st = x :: r := by cases st with | nil => exact absurd rfl hst | cons x r => exact ⟨x, r, rfl⟩
      rw [List.length_cons] at ho1 ho2 hsk
      obtain ⟨g1, cap1, rfl, hg1, hg1c, hg1m⟩ := ho1.some (by omega)
      obtain ⟨g2, cap2, rfl, hg2, hg2c, hg2m⟩ := ho2.some (by omega)
      have hne : g1 ≠ g2 := fun e => hdis g1 rfl (by rw [e]; rfl)
      rw [goR] at hgo
      have hq7 := kindP_le lk
      go_wp2_with fail
      refine C3.out.mono ?_
      rintro e w2 ⟨rfl, hn2⟩
      have CE := Lib.hid (fun w3 (hn : Nx w2 w3) => at_v u2 lk ka kb 15 w3 ((hT2.nx hn2).nx hn) hbk)
      have hc3 := hn2.cell hc2
      have zc3 := block_lt hc3
      have ho1' := ho1.nx hn2
      have ho2' := ho2.nx hn2
      have x1 := ho1'.cells rfl _ _ (kC_top tk el rest).1
      have x2 := ho2'.cells rfl _ _ (eC_top tk el rest).1
      have f2 := ho2'.free (g := g2) rfl rest.length
      have z1 := block_lt x1
      have z2 := block_lt x2
      have HO1 := Lib.hid ho1'
      have HO2 := Lib.hid ho2'
      have HH := Lib.hid (hh0.nx hn2)
      have HX2 := Lib.hid (HNX.out.trans hn2)
      have HNE := Lib.hid hne
      have hm : rest.length ≤ 1000000 := by omega
      have hm0 : 0 ≤ (rest.length : Int) := by omega
      have hmI : (rest.length : Int) < (rest.length : Int) + 1 := by omega
      generalize hkq : kindP lk = q at *
      have HKQ := Lib.hid hkq
      clear hnx ho1 ho2 ho1' ho2' hst hd hlk hT2 hn2 hdis hh0 hbk hkq hc2 cat zat hne
      rcases (by omega : q = 0 ∨ q = 1 ∨ q = 2 ∨ q = 3 ∨ q = 4 ∨ q = 5 ∨ q = 6 ∨ q = 7) with rfl | rfl | rfl | rfl | rfl | rfl | rfl | rfl
      · rw [if_neg (show ¬ begB 0 = true by decide), if_pos rfl] at hgo
        have HG := Lib.hid hgo
        clear hgo
        go_wp2
        go_roundw
        case rel => exact ⟨k + 1, (tk, el) :: rest, by omega, by go_num, by simp, by simp; omega, HO1.out, HO2.out, (fun x hx hy => HNE.out (by simp [Value.ownBlock] at hx hy; omega)), HH.out, HX2.out, HG.out⟩
        case measure => simp [intOf]; omega
      · rw [if_pos (show begB 1 = true by decide)] at hgo
        have HG := Lib.hid hgo
        clear hgo
        have zb : w.heap.size + 1 ≤ w2.heap.size := HH.out.lt
        have hA1 := Lib.hid (HO1.out.alloc (.cells #[.int .i64 1] 3))
        obtain ⟨hi, hz0, hz1, hz2⟩ := HI.out
        go_wp2_with (at_builtin; refine wpList_append_c _ rfl _ _ 81 rfl (w.heap.size + 1) 3 i0 (.int .i64 0) 1 8 Tryd.underlying81 hi hz0 hz1 hz2 rfl (by decide) _ _ _ rfl hA1.out (some ⟨w2.heap.size, 0, none⟩) 1 1 [.int .i64 1] rfl rfl (Or.inr ⟨_, rfl, ?c1⟩) ?c2 ?c3 ?c4 ?c5 ?_)
        case c1 =>
          intro j x hj
          have hj2 : j = 0 := by have := (List.getElem?_eq_some_iff.1 hj).1; simp at this; omega
          subst hj2
          cases hj
          simp [Addr.add]
        case c2 => simp [Value.oneCell']
        case c3 => unfold maxLen; omega
        case c4 => omega
        case c5 => simp; omega
        intro v3 w3 hown3 hgr3 hbl3
        have hbl4 : v3.ownBlock = some g1 ∨ v3.ownBlock = some (w2.heap.size + 1) := by simpa [Value.ownBlock] using hbl3
        have hx3 : Nx w w3 := Below.grown (HX2.out.alloc _) hgr3 (by simp; omega) (fun x hx => by simp [Value.ownBlock] at hx; omega)
        have ho4 := ownC_grown (HO2.out.alloc (.cells #[.int .i64 1] 3)) hgr3 (fun x hx hy => HNE.out (by simp [Value.ownBlock] at hx hy; omega))
        have hh3 := (HH.out.alloc (.cells #[.int .i64 1] 3)).grown hgr3 (by simp [Value.ownBlock]; omega)
        have hz3 : w2.heap.size + 1 ≤ w3.heap.size := by have := hgr3.size; simp at this; omega
        have HO3 := Lib.hid hown3
        have HO4 := Lib.hid ho4
        have HH3 := Lib.hid hh3
        have HX3 := Lib.hid hx3
        have HBL := Lib.hid hbl4
        have hA2 := Lib.hid (ho4.alloc (.cells #[.int .i64 (-1)] 3))
        clear hown3 hgr3 hbl3 hbl4 hx3 ho4 hh3 hA1
        go_wp2_with (at_builtin; refine wpList_append_c _ rfl _ _ 81 rfl (w.heap.size + 1) 3 i0 (.int .i64 0) 1 8 Tryd.underlying81 hi hz0 hz1 hz2 rfl (by decide) _ _ _ rfl hA2.out (some ⟨w3.heap.size, 0, none⟩) 1 1 [.int .i64 (-1)] rfl rfl (Or.inr ⟨_, rfl, ?d1⟩) ?d2 ?d3 ?d4 ?d5 ?_)
        case d1 =>
          intro j x hj
          have hj2 : j = 0 := by have := (List.getElem?_eq_some_iff.1 hj).1; simp at this; omega
          subst hj2
          cases hj
          simp [Addr.add]
        case d2 => simp [Value.oneCell']
        case d3 => unfold maxLen; omega
        case d4 => omega
        case d5 => simp; omega
        intro v4 w4 hown4 hgr4 hbl5
        have hbl6 : v4.ownBlock = some g2 ∨ v4.ownBlock = some (w3.heap.size + 1) := by simpa [Value.ownBlock] using hbl5
        have HL3 := HO3.out.lt
        have hx4 := Lib.hid (show Nx w w4 from Below.grown (HX3.out.alloc _) hgr4 (by simp; omega) (fun x hx => by simp [Value.ownBlock] at hx; omega))
        have ho5 := Lib.hid (ownC_grown (HO3.out.alloc (.cells #[.int .i64 (-1)] 3)) hgr4 (fun x hx hy => by
          simp [Value.ownBlock] at hy
          rcases HBL.out with h | h <;> (rw [h] at hx; simp at hx; have := HNE.out; omega)))
        have hh4 := Lib.hid ((HH3.out.alloc (.cells #[.int .i64 (-1)] 3)).grown hgr4 (by simp [Value.ownBlock]; omega))
        have HO6 := Lib.hid hown4
        have hdis := Lib.hid (fun x (hx : v3.ownBlock = some x) (hy : v4.ownBlock = some x) => (show False by
          have h3 := HL3 x hx
          rcases hbl6 with h | h <;> (rw [h] at hy; simp at hy)
          · rcases HBL.out with h' | h' <;> (rw [h'] at hx; simp at hx; have := HNE.out; omega)
          · omega))
        clear hown4 hgr4 hbl5 hbl6 hA2 HL3
        go_wp2
        go_roundw
        case rel => exact ⟨k + 1, (1, -1) :: (tk, el) :: rest, by omega, by go_num, by simp, by simp; omega, by rw [kC_cons]; exact ho5.out, by rw [eC_cons]; exact HO6.out, hdis.out, hh4.out, hx4.out, HG.out⟩
        case measure => simp [intOf]; omega
      · rw [if_neg (show ¬ begB 2 = true by decide), if_neg (show ¬ (2 : Nat) = 0 by decide)] at hgo
        rw [if_neg (show ¬ (2 : Nat) = 6 by decide)] at hgo
        by_cases htk : tk = 1
        · subst htk
          have tq : (((1 : Nat) : Int) != 1) = false := by decide
          rw [if_neg (by simp)] at hgo
          by_cases hre : rest = []
          · rw [if_pos hre] at hgo
            have HG := Lib.hid hgo
            clear hgo
            subst hre
            simp only [List.length_nil] at x1 x2 f2 hg1c hg2c
            have hh := HH.out
            unfold ro0 at hh
            have r0 := hh.cell 0 _ rfl
            have r1 := hh.cell 1 _ rfl
            have r2 := hh.cell 2 _ rfl
            have f0 := hh.free 0
            have f1 := hh.free 1
            have f2' := hh.free 2
            have zr := hh.lt
            clear hh
            go_wp2
            go_region
            all_goals go_wp2
            all_goals
              refine bodyPost_ret (v := .tuple #[.int .i64 k, .int .i64 el, .agg #[.int .i64 0, .int .i64 0, .int .i64 0]]) (by simp [results, Tryd.results20, go_sem, r0, r1, r2, f0, f1, f2']) rfl ⟨by rw [← HG.out]; rfl, ?_⟩
              repeat (with_reducible first | exact HX2.out | refine Nx.drew ?_ | refine Nx.setCell ?_ (Nat.le_refl _) _ | refine Nx.alloc ?_ _)
          · have HR := Lib.hid (show 0 < rest.length by cases rest with | nil => exact absurd rfl hre | cons _ _ => simp)
            rw [if_neg hre] at hgo
            have HG := Lib.hid hgo
            clear hgo
            obtain ⟨m, hmm⟩ : ∃ m, m = rest.length := ⟨_, rfl⟩
            have hm1 : 0 < m := by rw [hmm]; exact HR.out
            have HM := Lib.hid hmm
            rw [← hmm] at x1 x2 f2 hg1c hg2c hm hm0 hmI hsk HO1 HO2 ⊢
            clear hmm
            have hz1 : ((m : Int) + 1 == 1) = false := by simp; omega
            have zb : w.heap.size + 1 ≤ w2.heap.size := HH.out.lt
            obtain ⟨hi, hz0, hz1', hz2⟩ := HI.out
            have hA1 := Lib.hid (OwnC.made w2 (w.heap.size + 1) 3 1 #[] 0 zb (by unfold maxLen; omega) (by simp))
            have hs1 := Lib.hid (fun (j : Nat) (x : Value) (hj : (kC rest)[j]? = some x) => (show (w2.alloc (.cells #[] 3)).cell? ((⟨g1, 0, none⟩ : Addr).add j) = some x by
              rw [show (⟨g1, 0, none⟩ : Addr).add j = ⟨g1, j, none⟩ by unfold Addr.add; split <;> simp_all]
              refine (HO1.out.alloc _).cells rfl j x ?_
              have := (kC_top 1 el rest).2
              rw [← this] at hj
              exact take_some _ _ _ _ hj))
            go_wp2_with (at_builtin; refine wpList_append_c _ rfl _ _ 81 rfl (w.heap.size + 1) 3 i0 (.int .i64 0) 1 8 Tryd.underlying81 hi hz0 hz1' hz2 rfl (by decide) _ _ _ rfl hA1.out (some ⟨g1, 0, none⟩) m cap1 (kC rest) rfl ?c0 (Or.inr ⟨_, rfl, hs1.out⟩) ?c2 ?c3 ?c4 ?c5 ?_)
            case c0 => rw [kC_len, HM.out]; omega
            case c2 => exact kC_one rest
            case c3 => unfold maxLen; omega
            case c4 => omega
            case c5 => simp; omega
            intro v3 w3 hown3 hgr3 hbl3
            have hbl4 : v3.ownBlock = some w2.heap.size ∨ v3.ownBlock = some (w2.heap.size + 1) := by simpa [Value.ownBlock] using hbl3
            have hx3 : Nx w w3 := Below.grown (HX2.out.alloc _) hgr3 (by simp; omega) (fun x hx => by simp [Value.ownBlock] at hx; omega)
            have ho4 := ownC_grown (HO2.out.alloc (.cells #[] 3)) hgr3 (fun x hx hy => by simp [Value.ownBlock] at hx hy; omega)
            have hh3 := (HH.out.alloc (.cells #[] 3)).grown hgr3 (by simp [Value.ownBlock]; omega)
            have hz3 : w2.heap.size + 1 ≤ w3.heap.size := by have := hgr3.size; simp at this; omega
            have hown3 : OwnC w3 (w.heap.size + 1) 3 1 v3 m (kC rest) := by simpa using hown3
            have HO3 := Lib.hid hown3
            have HO4 := Lib.hid ho4
            have HH3 := Lib.hid hh3
            have HX3 := Lib.hid hx3
            have HBL := Lib.hid hbl4
            have hA2 := Lib.hid (OwnC.made w3 (w.heap.size + 1) 3 1 #[] 0 (by omega) (by unfold maxLen; omega) (by simp))
            have hs2 := Lib.hid (fun (j : Nat) (x : Value) (hj : (eC rest)[j]? = some x) => (show (w3.alloc (.cells #[] 3)).cell? ((⟨g2, 0, none⟩ : Addr).add j) = some x by
              rw [show (⟨g2, 0, none⟩ : Addr).add j = ⟨g2, j, none⟩ by unfold Addr.add; split <;> simp_all]
              refine (HO4.out.alloc _).cells rfl j x ?_
              have := (eC_top 1 el rest).2.1
              rw [← this] at hj
              exact take_some _ _ _ _ hj))
            clear hown3 hgr3 hbl3 hbl4 hx3 ho4 hh3 hA1 hs1
            go_wp2_with (at_builtin; refine wpList_append_c _ rfl _ _ 81 rfl (w.heap.size + 1) 3 i0 (.int .i64 0) 1 8 Tryd.underlying81 hi hz0 hz1' hz2 rfl (by decide) _ _ _ rfl hA2.out (some ⟨g2, 0, none⟩) m cap2 (eC rest) rfl ?d0 (Or.inr ⟨_, rfl, hs2.out⟩) ?d2 ?d3 ?d4 ?d5 ?_)
            case d0 => rw [eC_len, HM.out]; omega
            case d2 => exact eC_one rest
            case d3 => unfold maxLen; omega
            case d4 => omega
            case d5 => simp; omega
            intro v4 w4 hown4 hgr4 hbl5
            have hbl6 : v4.ownBlock = some w3.heap.size ∨ v4.ownBlock = some (w3.heap.size + 1) := by simpa [Value.ownBlock] using hbl5
            have HL3 := HO3.out.lt
            have hx4 := Lib.hid (show Nx w w4 from Below.grown (HX3.out.alloc _) hgr4 (by simp; omega) (fun x hx => by simp [Value.ownBlock] at hx; omega))
            have ho5 := Lib.hid (ownC_grown (HO3.out.alloc (.cells #[] 3)) hgr4 (fun x hx hy => by
              simp [Value.ownBlock] at hy
              have := HL3 x hx
              omega))
            have hh4 := Lib.hid ((HH3.out.alloc (.cells #[] 3)).grown hgr4 (by simp [Value.ownBlock]; omega))
            have hown4 : OwnC w4 (w.heap.size + 1) 3 1 v4 m (eC rest) := by simpa using hown4
            have HO6 := Lib.hid hown4
            have hdis := Lib.hid (fun x (hx : v3.ownBlock = some x) (hy : v4.ownBlock = some x) => (show False by
              have h3 := HL3 x hx
              rcases hbl6 with h | h <;> (rw [h] at hy; simp at hy; omega)))
            clear hown4 hgr4 hbl5 hbl6 hA2 HL3 hs2
            go_wp2
            go_roundw
            case rel => exact ⟨k + 1, rest, by omega, by go_num, hre, by rw [← HM.out]; omega, by rw [← HM.out]; exact ho5.out, by rw [← HM.out]; exact HO6.out, hdis.out, hh4.out, hx4.out, HG.out⟩
            case measure => simp [intOf]; omega
        · have tq : ((tk : Int) != 1) = true := by simp; omega
          rw [if_pos (by simp [htk])] at hgo
          clear htk
          have hgo2 := hgo
          rw [HBK.out] at hgo2
          have HG := Lib.hid hgo2
          clear hgo hgo2
          go_wp2_with fail
          refine (CE.out _ (Nx.refl _)).mono ?_
          rintro e w3 ⟨rfl, hn3⟩
          have hh := HH.out.nx hn3
          unfold ro0 at hh
          have r0 := hh.cell 0 _ rfl
          have r1 := hh.cell 1 _ rfl
          have r2 := hh.cell 2 _ rfl
          have f0 := hh.free 0
          have f1 := hh.free 1
          have f2 := hh.free 2
          have HX3 := Lib.hid (HX2.out.trans hn3)
          clear hn3 hh
          go_wp2
          refine bodyPost_ret (v := .tuple #[.int .i64 0, .int .i64 0, .agg #[.int .i64 ka, .int .i64 kb, .int .i64 15]]) (by simp [results, Tryd.results20, go_sem, r0, r1, r2]) rfl ⟨by rw [← HG.out]; rfl, ?_⟩
          repeat (with_reducible first | exact HX3.out | refine Nx.setCell ?_ (Nat.le_refl _) _ | refine Nx.alloc ?_ _)
      · rw [if_pos (show begB 3 = true by decide)] at hgo
        have HG := Lib.hid hgo
        clear hgo
        have zb : w.heap.size + 1 ≤ w2.heap.size := HH.out.lt
        have hA1 := Lib.hid (HO1.out.alloc (.cells #[.int .i64 3] 3))
        obtain ⟨hi, hz0, hz1, hz2⟩ := HI.out
        go_wp2_with (at_builtin; refine wpList_append_c _ rfl _ _ 81 rfl (w.heap.size + 1) 3 i0 (.int .i64 0) 1 8 Tryd.underlying81 hi hz0 hz1 hz2 rfl (by decide) _ _ _ rfl hA1.out (some ⟨w2.heap.size, 0, none⟩) 1 1 [.int .i64 3] rfl rfl (Or.inr ⟨_, rfl, ?c1⟩) ?c2 ?c3 ?c4 ?c5 ?_)
        case c1 =>
          intro j x hj
          have hj2 : j = 0 := by have := (List.getElem?_eq_some_iff.1 hj).1; simp at this; omega
          subst hj2
          cases hj
          simp [Addr.add]
        case c2 => simp [Value.oneCell']
        case c3 => unfold maxLen; omega
        case c4 => omega
        case c5 => simp; omega
        intro v3 w3 hown3 hgr3 hbl3
        have hbl4 : v3.ownBlock = some g1 ∨ v3.ownBlock = some (w2.heap.size + 1) := by simpa [Value.ownBlock] using hbl3
        have hx3 : Nx w w3 := Below.grown (HX2.out.alloc _) hgr3 (by simp; omega) (fun x hx => by simp [Value.ownBlock] at hx; omega)
        have ho4 := ownC_grown (HO2.out.alloc (.cells #[.int .i64 3] 3)) hgr3 (fun x hx hy => HNE.out (by simp [Value.ownBlock] at hx hy; omega))
        have hh3 := (HH.out.alloc (.cells #[.int .i64 3] 3)).grown hgr3 (by simp [Value.ownBlock]; omega)
        have hz3 : w2.heap.size + 1 ≤ w3.heap.size := by have := hgr3.size; simp at this; omega
        have HO3 := Lib.hid hown3
        have HO4 := Lib.hid ho4
        have HH3 := Lib.hid hh3
        have HX3 := Lib.hid hx3
        have HBL := Lib.hid hbl4
        have hA2 := Lib.hid (ho4.alloc (.cells #[.int .i64 (-1)] 3))
        clear hown3 hgr3 hbl3 hbl4 hx3 ho4 hh3 hA1
        go_wp2_with (at_builtin; refine wpList_append_c _ rfl _ _ 81 rfl (w.heap.size + 1) 3 i0 (.int .i64 0) 1 8 Tryd.underlying81 hi hz0 hz1 hz2 rfl (by decide) _ _ _ rfl hA2.out (some ⟨w3.heap.size, 0, none⟩) 1 1 [.int .i64 (-1)] rfl rfl (Or.inr ⟨_, rfl, ?d1⟩) ?d2 ?d3 ?d4 ?d5 ?_)
        case d1 =>
          intro j x hj
          have hj2 : j = 0 := by have := (List.getElem?_eq_some_iff.1 hj).1; simp at this; omega
          subst hj2
          cases hj
          simp [Addr.add]
        case d2 => simp [Value.oneCell']
        case d3 => unfold maxLen; omega
        case d4 => omega
        case d5 => simp; omega
        intro v4 w4 hown4 hgr4 hbl5
        have hbl6 : v4.ownBlock = some g2 ∨ v4.ownBlock = some (w3.heap.size + 1) := by simpa [Value.ownBlock] using hbl5
        have HL3 := HO3.out.lt
        have hx4 := Lib.hid (show Nx w w4 from Below.grown (HX3.out.alloc _) hgr4 (by simp; omega) (fun x hx => by simp [Value.ownBlock] at hx; omega))
        have ho5 := Lib.hid (ownC_grown (HO3.out.alloc (.cells #[.int .i64 (-1)] 3)) hgr4 (fun x hx hy => by
          simp [Value.ownBlock] at hy
          rcases HBL.out with h | h <;> (rw [h] at hx; simp at hx; have := HNE.out; omega)))
        have hh4 := Lib.hid ((HH3.out.alloc (.cells #[.int .i64 (-1)] 3)).grown hgr4 (by simp [Value.ownBlock]; omega))
        have HO6 := Lib.hid hown4
        have hdis := Lib.hid (fun x (hx : v3.ownBlock = some x) (hy : v4.ownBlock = some x) => (show False by
          have h3 := HL3 x hx
          rcases hbl6 with h | h <;> (rw [h] at hy; simp at hy)
          · rcases HBL.out with h' | h' <;> (rw [h'] at hx; simp at hx; have := HNE.out; omega)
          · omega))
        clear hown4 hgr4 hbl5 hbl6 hA2 HL3
        go_wp2
        go_roundw
        case rel => exact ⟨k + 1, (3, -1) :: (tk, el) :: rest, by omega, by go_num, by simp, by simp; omega, by rw [kC_cons]; exact ho5.out, by rw [eC_cons]; exact HO6.out, hdis.out, hh4.out, hx4.out, HG.out⟩
        case measure => simp [intOf]; omega
      · rw [if_neg (show ¬ begB 4 = true by decide), if_neg (show ¬ (4 : Nat) = 0 by decide)] at hgo
        rw [if_neg (show ¬ (4 : Nat) = 6 by decide)] at hgo
        by_cases htk : tk = 3
        · subst htk
          have tq : (((3 : Nat) : Int) != 3) = false := by decide
          rw [if_neg (by simp)] at hgo
          by_cases hre : rest = []
          · rw [if_pos hre] at hgo
            have HG := Lib.hid hgo
            clear hgo
            subst hre
            simp only [List.length_nil] at x1 x2 f2 hg1c hg2c
            have hh := HH.out
            unfold ro0 at hh
            have r0 := hh.cell 0 _ rfl
            have r1 := hh.cell 1 _ rfl
            have r2 := hh.cell 2 _ rfl
            have f0 := hh.free 0
            have f1 := hh.free 1
            have f2' := hh.free 2
            have zr := hh.lt
            clear hh
            go_wp2
            go_region
            all_goals go_wp2
            all_goals
              refine bodyPost_ret (v := .tuple #[.int .i64 k, .int .i64 el, .agg #[.int .i64 0, .int .i64 0, .int .i64 0]]) (by simp [results, Tryd.results20, go_sem, r0, r1, r2, f0, f1, f2']) rfl ⟨by rw [← HG.out]; rfl, ?_⟩
              repeat (with_reducible first | exact HX2.out | refine Nx.drew ?_ | refine Nx.setCell ?_ (Nat.le_refl _) _ | refine Nx.alloc ?_ _)
          · have HR := Lib.hid (show 0 < rest.length by cases rest with | nil => exact absurd rfl hre | cons _ _ => simp)
            rw [if_neg hre] at hgo
            have HG := Lib.hid hgo
            clear hgo
            obtain ⟨m, hmm⟩ : ∃ m, m = rest.length := ⟨_, rfl⟩
            have hm1 : 0 < m := by rw [hmm]; exact HR.out
            have HM := Lib.hid hmm
            rw [← hmm] at x1 x2 f2 hg1c hg2c hm hm0 hmI hsk HO1 HO2 ⊢
            clear hmm
            have hz1 : ((m : Int) + 1 == 1) = false := by simp; omega
            have zb : w.heap.size + 1 ≤ w2.heap.size := HH.out.lt
            obtain ⟨hi, hz0, hz1', hz2⟩ := HI.out
            have hA1 := Lib.hid (OwnC.made w2 (w.heap.size + 1) 3 1 #[] 0 zb (by unfold maxLen; omega) (by simp))
            have hs1 := Lib.hid (fun (j : Nat) (x : Value) (hj : (kC rest)[j]? = some x) => (show (w2.alloc (.cells #[] 3)).cell? ((⟨g1, 0, none⟩ : Addr).add j) = some x by
              rw [show (⟨g1, 0, none⟩ : Addr).add j = ⟨g1, j, none⟩ by unfold Addr.add; split <;> simp_all]
              refine (HO1.out.alloc _).cells rfl j x ?_
              have := (kC_top 3 el rest).2
              rw [← this] at hj
              exact take_some _ _ _ _ hj))
            go_wp2_with (at_builtin; refine wpList_append_c _ rfl _ _ 81 rfl (w.heap.size + 1) 3 i0 (.int .i64 0) 1 8 Tryd.underlying81 hi hz0 hz1' hz2 rfl (by decide) _ _ _ rfl hA1.out (some ⟨g1, 0, none⟩) m cap1 (kC rest) rfl ?c0 (Or.inr ⟨_, rfl, hs1.out⟩) ?c2 ?c3 ?c4 ?c5 ?_)
            case c0 => rw [kC_len, HM.out]; omega
            case c2 => exact kC_one rest
            case c3 => unfold maxLen; omega
            case c4 => omega
            case c5 => simp; omega
            intro v3 w3 hown3 hgr3 hbl3
            have hbl4 : v3.ownBlock = some w2.heap.size ∨ v3.ownBlock = some (w2.heap.size + 1) := by simpa [Value.ownBlock] using hbl3
            have hx3 : Nx w w3 := Below.grown (HX2.out.alloc _) hgr3 (by simp; omega) (fun x hx => by simp [Value.ownBlock] at hx; omega)
            have ho4 := ownC_grown (HO2.out.alloc (.cells #[] 3)) hgr3 (fun x hx hy => by simp [Value.ownBlock] at hx hy; omega)
            have hh3 := (HH.out.alloc (.cells #[] 3)).grown hgr3 (by simp [Value.ownBlock]; omega)
            have hz3 : w2.heap.size + 1 ≤ w3.heap.size := by have := hgr3.size; simp at this; omega
            have hown3 : OwnC w3 (w.heap.size + 1) 3 1 v3 m (kC rest) := by simpa using hown3
            have HO3 := Lib.hid hown3
            have HO4 := Lib.hid ho4
            have HH3 := Lib.hid hh3
            have HX3 := Lib.hid hx3
            have HBL := Lib.hid hbl4
            have hA2 := Lib.hid (OwnC.made w3 (w.heap.size + 1) 3 1 #[] 0 (by omega) (by unfold maxLen; omega) (by simp))
            have hs2 := Lib.hid (fun (j : Nat) (x : Value) (hj : (eC rest)[j]? = some x) => (show (w3.alloc (.cells #[] 3)).cell? ((⟨g2, 0, none⟩ : Addr).add j) = some x by
              rw [show (⟨g2, 0, none⟩ : Addr).add j = ⟨g2, j, none⟩ by unfold Addr.add; split <;> simp_all]
              refine (HO4.out.alloc _).cells rfl j x ?_
              have := (eC_top 3 el rest).2.1
              rw [← this] at hj
              exact take_some _ _ _ _ hj))
            clear hown3 hgr3 hbl3 hbl4 hx3 ho4 hh3 hA1 hs1
            go_wp2_with (at_builtin; refine wpList_append_c _ rfl _ _ 81 rfl (w.heap.size + 1) 3 i0 (.int .i64 0) 1 8 Tryd.underlying81 hi hz0 hz1' hz2 rfl (by decide) _ _ _ rfl hA2.out (some ⟨g2, 0, none⟩) m cap2 (eC rest) rfl ?d0 (Or.inr ⟨_, rfl, hs2.out⟩) ?d2 ?d3 ?d4 ?d5 ?_)
            case d0 => rw [eC_len, HM.out]; omega
            case d2 => exact eC_one rest
            case d3 => unfold maxLen; omega
            case d4 => omega
            case d5 => simp; omega
            intro v4 w4 hown4 hgr4 hbl5
            have hbl6 : v4.ownBlock = some w3.heap.size ∨ v4.ownBlock = some (w3.heap.size + 1) := by simpa [Value.ownBlock] using hbl5
            have HL3 := HO3.out.lt
            have hx4 := Lib.hid (show Nx w w4 from Below.grown (HX3.out.alloc _) hgr4 (by simp; omega) (fun x hx => by simp [Value.ownBlock] at hx; omega))
            have ho5 := Lib.hid (ownC_grown (HO3.out.alloc (.cells #[] 3)) hgr4 (fun x hx hy => by
              simp [Value.ownBlock] at hy
              have := HL3 x hx
              omega))
            have hh4 := Lib.hid ((HH3.out.alloc (.cells #[] 3)).grown hgr4 (by simp [Value.ownBlock]; omega))
            have hown4 : OwnC w4 (w.heap.size + 1) 3 1 v4 m (eC rest) := by simpa using hown4
            have HO6 := Lib.hid hown4
            have hdis := Lib.hid (fun x (hx : v3.ownBlock = some x) (hy : v4.ownBlock = some x) => (show False by
              have h3 := HL3 x hx
              rcases hbl6 with h | h <;> (rw [h] at hy; simp at hy; omega)))
            clear hown4 hgr4 hbl5 hbl6 hA2 HL3 hs2
            go_wp2
            go_roundw
            case rel => exact ⟨k + 1, rest, by omega, by go_num, hre, by rw [← HM.out]; omega, by rw [← HM.out]; exact ho5.out, by rw [← HM.out]; exact HO6.out, hdis.out, hh4.out, hx4.out, HG.out⟩
            case measure => simp [intOf]; omega
        · have tq : ((tk : Int) != 3) = true := by simp; omega
          rw [if_pos (by simp [htk])] at hgo
          clear htk
          have hgo2 := hgo
          rw [HBK.out] at hgo2
          have HG := Lib.hid hgo2
          clear hgo hgo2
          go_wp2_with fail
          refine (CE.out _ (Nx.refl _)).mono ?_
          rintro e w3 ⟨rfl, hn3⟩
          have hh := HH.out.nx hn3
          unfold ro0 at hh
          have r0 := hh.cell 0 _ rfl
          have r1 := hh.cell 1 _ rfl
          have r2 := hh.cell 2 _ rfl
          have f0 := hh.free 0
          have f1 := hh.free 1
          have f2 := hh.free 2
          have HX3 := Lib.hid (HX2.out.trans hn3)
          clear hn3 hh
          go_wp2
          refine bodyPost_ret (v := .tuple #[.int .i64 0, .int .i64 0, .agg #[.int .i64 ka, .int .i64 kb, .int .i64 15]]) (by simp [results, Tryd.results20, go_sem, r0, r1, r2]) rfl ⟨by rw [← HG.out]; rfl, ?_⟩
          repeat (with_reducible first | exact HX3.out | refine Nx.setCell ?_ (Nat.le_refl _) _ | refine Nx.alloc ?_ _)
      · rw [if_pos (show begB 5 = true by decide)] at hgo
        have HG := Lib.hid hgo
        clear hgo
        have zb : w.heap.size + 1 ≤ w2.heap.size := HH.out.lt
        have hA1 := Lib.hid (HO1.out.alloc (.cells #[.int .i64 5] 3))
        obtain ⟨hi, hz0, hz1, hz2⟩ := HI.out
        go_wp2_with (at_builtin; refine wpList_append_c _ rfl _ _ 81 rfl (w.heap.size + 1) 3 i0 (.int .i64 0) 1 8 Tryd.underlying81 hi hz0 hz1 hz2 rfl (by decide) _ _ _ rfl hA1.out (some ⟨w2.heap.size, 0, none⟩) 1 1 [.int .i64 5] rfl rfl (Or.inr ⟨_, rfl, ?c1⟩) ?c2 ?c3 ?c4 ?c5 ?_)
        case c1 =>
          intro j x hj
          have hj2 : j = 0 := by have := (List.getElem?_eq_some_iff.1 hj).1; simp at this; omega
          subst hj2
          cases hj
          simp [Addr.add]
        case c2 => simp [Value.oneCell']
        case c3 => unfold maxLen; omega
        case c4 => omega
        case c5 => simp; omega
        intro v3 w3 hown3 hgr3 hbl3
        have hbl4 : v3.ownBlock = some g1 ∨ v3.ownBlock = some (w2.heap.size + 1) := by simpa [Value.ownBlock] using hbl3
        have hx3 : Nx w w3 := Below.grown (HX2.out.alloc _) hgr3 (by simp; omega) (fun x hx => by simp [Value.ownBlock] at hx; omega)
        have ho4 := ownC_grown (HO2.out.alloc (.cells #[.int .i64 5] 3)) hgr3 (fun x hx hy => HNE.out (by simp [Value.ownBlock] at hx hy; omega))
        have hh3 := (HH.out.alloc (.cells #[.int .i64 5] 3)).grown hgr3 (by simp [Value.ownBlock]; omega)
        have hz3 : w2.heap.size + 1 ≤ w3.heap.size := by have := hgr3.size; simp at this; omega
        have HO3 := Lib.hid hown3
        have HO4 := Lib.hid ho4
        have HH3 := Lib.hid hh3
        have HX3 := Lib.hid hx3
        have HBL := Lib.hid hbl4
        have hA2 := Lib.hid (ho4.alloc (.cells #[.int .i64 (-1)] 3))
        clear hown3 hgr3 hbl3 hbl4 hx3 ho4 hh3 hA1
        go_wp2_with (at_builtin; refine wpList_append_c _ rfl _ _ 81 rfl (w.heap.size + 1) 3 i0 (.int .i64 0) 1 8 Tryd.underlying81 hi hz0 hz1 hz2 rfl (by decide) _ _ _ rfl hA2.out (some ⟨w3.heap.size, 0, none⟩) 1 1 [.int .i64 (-1)] rfl rfl (Or.inr ⟨_, rfl, ?d1⟩) ?d2 ?d3 ?d4 ?d5 ?_)
        case d1 =>
          intro j x hj
          have hj2 : j = 0 := by have := (List.getElem?_eq_some_iff.1 hj).1; simp at this; omega
          subst hj2
          cases hj
          simp [Addr.add]
        case d2 => simp [Value.oneCell']
        case d3 => unfold maxLen; omega
        case d4 => omega
        case d5 => simp; omega
        intro v4 w4 hown4 hgr4 hbl5
        have hbl6 : v4.ownBlock = some g2 ∨ v4.ownBlock = some (w3.heap.size + 1) := by simpa [Value.ownBlock] using hbl5
        have HL3 := HO3.out.lt
        have hx4 := Lib.hid (show Nx w w4 from Below.grown (HX3.out.alloc _) hgr4 (by simp; omega) (fun x hx => by simp [Value.ownBlock] at hx; omega))
        have ho5 := Lib.hid (ownC_grown (HO3.out.alloc (.cells #[.int .i64 (-1)] 3)) hgr4 (fun x hx hy => by
          simp [Value.ownBlock] at hy
          rcases HBL.out with h | h <;> (rw [h] at hx; simp at hx; have := HNE.out; omega)))
        have hh4 := Lib.hid ((HH3.out.alloc (.cells #[.int .i64 (-1)] 3)).grown hgr4 (by simp [Value.ownBlock]; omega))
        have HO6 := Lib.hid hown4
        have hdis := Lib.hid (fun x (hx : v3.ownBlock = some x) (hy : v4.ownBlock = some x) => (show False by
          have h3 := HL3 x hx
          rcases hbl6 with h | h <;> (rw [h] at hy; simp at hy)
          · rcases HBL.out with h' | h' <;> (rw [h'] at hx; simp at hx; have := HNE.out; omega)
          · omega))
        clear hown4 hgr4 hbl5 hbl6 hA2 HL3
        go_wp2
        go_roundw
        case rel => exact ⟨k + 1, (5, -1) :: (tk, el) :: rest, by omega, by go_num, by simp, by simp; omega, by rw [kC_cons]; exact ho5.out, by rw [eC_cons]; exact HO6.out, hdis.out, hh4.out, hx4.out, HG.out⟩
        case measure => simp [intOf]; omega
      · rw [if_neg (show ¬ begB 6 = true by decide), if_neg (show ¬ (6 : Nat) = 0 by decide)] at hgo
        rw [if_pos rfl] at hgo
        by_cases htk : tk = 5
        · subst htk
          have tq : (((5 : Nat) : Int) != 5) = false := by decide
          by_cases hel : 0 ≤ el
          · rw [if_pos (Or.inr hel)] at hgo
            have hgo2 := hgo
            rw [HBK.out] at hgo2
            have HG := Lib.hid hgo2
            clear hgo hgo2
            go_wp2_with fail
            refine (CE.out _ (Nx.refl _)).mono ?_
            rintro e w3 ⟨rfl, hn3⟩
            have hh := HH.out.nx hn3
            unfold ro0 at hh
            have r0 := hh.cell 0 _ rfl
            have r1 := hh.cell 1 _ rfl
            have r2 := hh.cell 2 _ rfl
            have f0 := hh.free 0
            have f1 := hh.free 1
            have f2 := hh.free 2
            have HX3 := Lib.hid (HX2.out.trans hn3)
            clear hn3 hh
            go_wp2
            refine bodyPost_ret (v := .tuple #[.int .i64 0, .int .i64 0, .agg #[.int .i64 ka, .int .i64 kb, .int .i64 15]]) (by simp [results, Tryd.results20, go_sem, r0, r1, r2]) rfl ⟨by rw [← HG.out]; rfl, ?_⟩
            repeat (with_reducible first | exact HX3.out | refine Nx.setCell ?_ (Nat.le_refl _) _ | refine Nx.alloc ?_ _)
          · rw [if_neg (by intro h; rcases h with h | h; exact h rfl; exact hel h)] at hgo
            have HG := Lib.hid hgo
            clear hgo
            have hS := HO2.out.store rest.length (.int .i64 k) (by omega)
            rw [(eC_top 5 el rest).2.2] at hS
            have HS := Lib.hid hS
            have h7 := Lib.hid (ownC_grown (w' := w2.setCell ⟨g2, rest.length, none⟩ (.int .i64 k)) (row := some g2) HO1.out (setCell_grown w2 _ _) (fun x hx hy => HNE.out (by simp [Value.ownBlock] at hx hy; omega)))
            have h8 := Lib.hid (HH.out.far (p := ⟨g2, rest.length, none⟩) (by show _ ≠ g2; omega) (.int .i64 k))
            have zb : w.heap.size ≤ g2 := by omega
            clear hS
            go_wp2
            go_roundw
            case rel => exact ⟨k + 1, (5, k) :: rest, by omega, by go_num, by simp, by simp; omega, by rw [kC_cons]; have h9 := h7.out; rw [kC_cons] at h9; exact h9, HS.out, (fun x hx hy => HNE.out (by simp [Value.ownBlock] at hx hy; omega)), h8.out, HX2.out.setCell zb _, HG.out⟩
            case measure => simp [intOf]; omega
        · have tq : ((tk : Int) != 5) = true := by simp; omega
          rw [if_pos (Or.inl htk)] at hgo
          clear htk
          have hgo2 := hgo
          rw [HBK.out] at hgo2
          have HG := Lib.hid hgo2
          clear hgo hgo2
          go_wp2_with fail
          refine (CE.out _ (Nx.refl _)).mono ?_
          rintro e w3 ⟨rfl, hn3⟩
          have hh := HH.out.nx hn3
          unfold ro0 at hh
          have r0 := hh.cell 0 _ rfl
          have r1 := hh.cell 1 _ rfl
          have r2 := hh.cell 2 _ rfl
          have f0 := hh.free 0
          have f1 := hh.free 1
          have f2 := hh.free 2
          have HX3 := Lib.hid (HX2.out.trans hn3)
          clear hn3 hh
          go_wp2
          refine bodyPost_ret (v := .tuple #[.int .i64 0, .int .i64 0, .agg #[.int .i64 ka, .int .i64 kb, .int .i64 15]]) (by simp [results, Tryd.results20, go_sem, r0, r1, r2]) rfl ⟨by rw [← HG.out]; rfl, ?_⟩
          repeat (with_reducible first | exact HX3.out | refine Nx.setCell ?_ (Nat.le_refl _) _ | refine Nx.alloc ?_ _)
      · rw [if_neg (show ¬ begB 7 = true by decide), if_neg (show ¬ (7 : Nat) = 0 by decide)] at hgo
        rw [if_neg (show ¬ (7 : Nat) = 6 by decide)] at hgo
        by_cases htk : tk = 5
        · subst htk
          have tq : (((5 : Nat) : Int) != 5) = false := by decide
          rw [if_neg (by simp)] at hgo
          by_cases hre : rest = []
          · rw [if_pos hre] at hgo
            have HG := Lib.hid hgo
            clear hgo
            subst hre
            simp only [List.length_nil] at x1 x2 f2 hg1c hg2c
            have hh := HH.out
            unfold ro0 at hh
            have r0 := hh.cell 0 _ rfl
            have r1 := hh.cell 1 _ rfl
            have r2 := hh.cell 2 _ rfl
            have f0 := hh.free 0
            have f1 := hh.free 1
            have f2' := hh.free 2
            have zr := hh.lt
            clear hh
            go_wp2
            go_region
            all_goals go_wp2
            all_goals
              refine bodyPost_ret (v := .tuple #[.int .i64 k, .int .i64 el, .agg #[.int .i64 0, .int .i64 0, .int .i64 0]]) (by simp [results, Tryd.results20, go_sem, r0, r1, r2, f0, f1, f2']) rfl ⟨by rw [← HG.out]; rfl, ?_⟩
              repeat (with_reducible first | exact HX2.out | refine Nx.drew ?_ | refine Nx.setCell ?_ (Nat.le_refl _) _ | refine Nx.alloc ?_ _)
          · have HR := Lib.hid (show 0 < rest.length by cases rest with | nil => exact absurd rfl hre | cons _ _ => simp)
            rw [if_neg hre] at hgo
            have HG := Lib.hid hgo
            clear hgo
            obtain ⟨m, hmm⟩ : ∃ m, m = rest.length := ⟨_, rfl⟩
            have hm1 : 0 < m := by rw [hmm]; exact HR.out
            have HM := Lib.hid hmm
            rw [← hmm] at x1 x2 f2 hg1c hg2c hm hm0 hmI hsk HO1 HO2 ⊢
            clear hmm
            have hz1 : ((m : Int) + 1 == 1) = false := by simp; omega
            have zb : w.heap.size + 1 ≤ w2.heap.size := HH.out.lt
            obtain ⟨hi, hz0, hz1', hz2⟩ := HI.out
            have hA1 := Lib.hid (OwnC.made w2 (w.heap.size + 1) 3 1 #[] 0 zb (by unfold maxLen; omega) (by simp))
            have hs1 := Lib.hid (fun (j : Nat) (x : Value) (hj : (kC rest)[j]? = some x) => (show (w2.alloc (.cells #[] 3)).cell? ((⟨g1, 0, none⟩ : Addr).add j) = some x by
              rw [show (⟨g1, 0, none⟩ : Addr).add j = ⟨g1, j, none⟩ by unfold Addr.add; split <;> simp_all]
              refine (HO1.out.alloc _).cells rfl j x ?_
              have := (kC_top 5 el rest).2
              rw [← this] at hj
              exact take_some _ _ _ _ hj))
            go_wp2_with (at_builtin; refine wpList_append_c _ rfl _ _ 81 rfl (w.heap.size + 1) 3 i0 (.int .i64 0) 1 8 Tryd.underlying81 hi hz0 hz1' hz2 rfl (by decide) _ _ _ rfl hA1.out (some ⟨g1, 0, none⟩) m cap1 (kC rest) rfl ?c0 (Or.inr ⟨_, rfl, hs1.out⟩) ?c2 ?c3 ?c4 ?c5 ?_)
            case c0 => rw [kC_len, HM.out]; omega
            case c2 => exact kC_one rest
            case c3 => unfold maxLen; omega
            case c4 => omega
            case c5 => simp; omega
            intro v3 w3 hown3 hgr3 hbl3
            have hbl4 : v3.ownBlock = some w2.heap.size ∨ v3.ownBlock = some (w2.heap.size + 1) := by simpa [Value.ownBlock] using hbl3
            have hx3 : Nx w w3 := Below.grown (HX2.out.alloc _) hgr3 (by simp; omega) (fun x hx => by simp [Value.ownBlock] at hx; omega)
            have ho4 := ownC_grown (HO2.out.alloc (.cells #[] 3)) hgr3 (fun x hx hy => by simp [Value.ownBlock] at hx hy; omega)
            have hh3 := (HH.out.alloc (.cells #[] 3)).grown hgr3 (by simp [Value.ownBlock]; omega)
            have hz3 : w2.heap.size + 1 ≤ w3.heap.size := by have := hgr3.size; simp at this; omega
            have hown3 : OwnC w3 (w.heap.size + 1) 3 1 v3 m (kC rest) := by simpa using hown3
            have HO3 := Lib.hid hown3
            have HO4 := Lib.hid ho4
            have HH3 := Lib.hid hh3
            have HX3 := Lib.hid hx3
            have HBL := Lib.hid hbl4
            have hA2 := Lib.hid (OwnC.made w3 (w.heap.size + 1) 3 1 #[] 0 (by omega) (by unfold maxLen; omega) (by simp))
            have hs2 := Lib.hid (fun (j : Nat) (x : Value) (hj : (eC rest)[j]? = some x) => (show (w3.alloc (.cells #[] 3)).cell? ((⟨g2, 0, none⟩ : Addr).add j) = some x by
              rw [show (⟨g2, 0, none⟩ : Addr).add j = ⟨g2, j, none⟩ by unfold Addr.add; split <;> simp_all]
              refine (HO4.out.alloc _).cells rfl j x ?_
              have := (eC_top 5 el rest).2.1
              rw [← this] at hj
              exact take_some _ _ _ _ hj))
            clear hown3 hgr3 hbl3 hbl4 hx3 ho4 hh3 hA1 hs1
            go_wp2_with (at_builtin; refine wpList_append_c _ rfl _ _ 81 rfl (w.heap.size + 1) 3 i0 (.int .i64 0) 1 8 Tryd.underlying81 hi hz0 hz1' hz2 rfl (by decide) _ _ _ rfl hA2.out (some ⟨g2, 0, none⟩) m cap2 (eC rest) rfl ?d0 (Or.inr ⟨_, rfl, hs2.out⟩) ?d2 ?d3 ?d4 ?d5 ?_)
            case d0 => rw [eC_len, HM.out]; omega
            case d2 => exact eC_one rest
            case d3 => unfold maxLen; omega
            case d4 => omega
            case d5 => simp; omega
            intro v4 w4 hown4 hgr4 hbl5
            have hbl6 : v4.ownBlock = some w3.heap.size ∨ v4.ownBlock = some (w3.heap.size + 1) := by simpa [Value.ownBlock] using hbl5
            have HL3 := HO3.out.lt
            have hx4 := Lib.hid (show Nx w w4 from Below.grown (HX3.out.alloc _) hgr4 (by simp; omega) (fun x hx => by simp [Value.ownBlock] at hx; omega))
            have ho5 := Lib.hid (ownC_grown (HO3.out.alloc (.cells #[] 3)) hgr4 (fun x hx hy => by
              simp [Value.ownBlock] at hy
              have := HL3 x hx
              omega))
            have hh4 := Lib.hid ((HH3.out.alloc (.cells #[] 3)).grown hgr4 (by simp [Value.ownBlock]; omega))
            have hown4 : OwnC w4 (w.heap.size + 1) 3 1 v4 m (eC rest) := by simpa using hown4
            have HO6 := Lib.hid hown4
            have hdis := Lib.hid (fun x (hx : v3.ownBlock = some x) (hy : v4.ownBlock = some x) => (show False by
              have h3 := HL3 x hx
              rcases hbl6 with h | h <;> (rw [h] at hy; simp at hy; omega)))
            clear hown4 hgr4 hbl5 hbl6 hA2 HL3 hs2
            go_wp2
            go_roundw
            case rel => exact ⟨k + 1, rest, by omega, by go_num, hre, by rw [← HM.out]; omega, by rw [← HM.out]; exact ho5.out, by rw [← HM.out]; exact HO6.out, hdis.out, hh4.out, hx4.out, HG.out⟩
            case measure => simp [intOf]; omega
        · have tq : ((tk : Int) != 5) = true := by simp; omega
          rw [if_pos (by simp [htk])] at hgo
          clear htk
          have hgo2 := hgo
          rw [HBK.out] at hgo2
          have HG := Lib.hid hgo2
          clear hgo hgo2
          go_wp2_with fail
          refine (CE.out _ (Nx.refl _)).mono ?_
          rintro e w3 ⟨rfl, hn3⟩
          have hh := HH.out.nx hn3
          unfold ro0 at hh
          have r0 := hh.cell 0 _ rfl
          have r1 := hh.cell 1 _ rfl
          have r2 := hh.cell 2 _ rfl
          have f0 := hh.free 0
          have f1 := hh.free 1
          have f2 := hh.free 2
          have HX3 := Lib.hid (HX2.out.trans hn3)
          clear hn3 hh
          go_wp2
          refine bodyPost_ret (v := .tuple #[.int .i64 0, .int .i64 0, .agg #[.int .i64 ka, .int .i64 kb, .int .i64 15]]) (by simp [results, Tryd.results20, go_sem, r0, r1, r2]) rfl ⟨by rw [← HG.out]; rfl, ?_⟩
          repeat (with_reducible first | exact HX3.out | refine Nx.setCell ?_ (Nat.le_refl _) _ | refine Nx.alloc ?_ _)
    · obtain rfl : k = ls.length := by omega
      have hgo' : badAt l = V := by
        rw [← hgo, List.drop_length]
        cases st <;> rfl
      rw [HBD.out] at hgo'
      have HG := Lib.hid hgo'
      have HH := Lib.hid hh0
      clear hgo hgo' ho1 ho2 hnx hst hdis hh0
      go_wp2_with fail
      refine (CF.out _ HNX.out).mono ?_
      rintro e w3 ⟨rfl, hn3⟩
      have hh := HH.out.nx hn3
      unfold ro0 at hh
      have r0 := hh.cell 0 _ rfl
      have r1 := hh.cell 1 _ rfl
      have r2 := hh.cell 2 _ rfl
      have f0 := hh.free 0
      have f1 := hh.free 1
      have f2 := hh.free 2
      have HX3 := Lib.hid (HNX.out.trans hn3)
      clear hn3 hh
      go_wp2
      refine bodyPost_ret (v := .tuple #[.int .i64 0, .int .i64 0, .agg #[.int .i64 la, .int .i64 lb, .int .i64 15]]) (by simp [results, Tryd.results20, go_sem, r0, r1, r2]) rfl ⟨by rw [← HG.out]; rfl, ?_⟩
      repeat (with_reducible first | exact HX3.out | refine Nx.setCell ?_ (Nat.le_refl _) _ | refine Nx.alloc ?_ _)

set_option maxHeartbeats 16000000 in
set_option maxRecDepth 100000 in
theorem rend_in3 (v : Value) (ls : List (List Tok)) (a : Nat) (l : List Tok) (w : World) (hL : Lins w v ls) (hn : ls.length ≤ 1000000) (hl : ls[a]? = some l) (hb : kindP l = 3) :
    Calls Tryd.prog 20 #[v, .int .i64 a] w fun e w' => e = .returned (endV (endR ls a)) ∧ Nx w w' := by
  obtain ⟨i0, hi, hz0, hz1, hz2⟩ := info_parts int_info
  obtain ⟨ha, hla⟩ := List.getElem?_eq_some_iff.1 hl
  have hgd : ls.getD a [] = l := by rw [List.getD_eq_getElem?_getD, hl]; rfl
  obtain ⟨la, lb, hbad⟩ := badAt_form l
  have HV := Lib.hid (show goR (badAt l) [(kindP l, -1)] (a + 1) (ls.drop (a + 1)) = endR ls a by unfold endR; rw [if_neg (by omega), show ((a : Int)).toNat = a by simp, hgd, if_pos (by rw [hb]; rfl)])
  generalize endR ls a = V at *
  obtain ⟨g, o, c, u, rfl, hc1, hcell, hT⟩ := line_at hL a l hl
  have C1 := Lib.hid (fun w2 (hn : Nx w w2) => kindR_any u l w2 (hT.nx hn))
  have CF := Lib.hid (fun w2 (hn : Nx w w2) => at_v u l la lb 15 w2 (hT.nx hn) hbad)
  have HL := Lib.hid hL
  have HC := Lib.hid hcell
  have HBD := Lib.hid hbad
  have zg0 := block_lt hcell
  have HI := Lib.hid (And.intro hi (And.intro hz0 (And.intro hz1 hz2)))
  rw [hb] at HV C1
  clear hL hla hgd hb hl hT hi hz0 hz1 hz2 hbad
  go_enter Tryd.func20, Tryd.ntmps20
  go_wp2_with fail
  refine (C1.out _ ((Nx.refl w).alloc _)).mono ?_
  rintro e w1 ⟨rfl, hn1⟩
  have HN1 := Lib.hid (((Nx.refl w).alloc _).trans hn1)
  have h0 := Lib.hid ((Has.new w ro0).nx hn1)
  have hz1 : w.heap.size + 1 ≤ w1.heap.size := by have := hn1.size; simp at this; omega
  clear hn1 hcell
  go_wp2
  go_loopw [8, 9, 10] (fun ov ev nv wr => EndRelR (badAt l) ls w wr V ov ev nv) (fun _ _ nv _ => ls.length - (intOf nv).toNat)
  case atStart => exact ⟨a + 1, [(_, -1)], by omega, by simp, by simp, by simp, (OwnC.new w1 _ _ 1 _ 1 hz1 (by unfold maxLen; omega) rfl).alloc _, own_new2 w1 _ _ _ 1 #[.int .i64 (-1)] 1 (by omega) (by unfold maxLen; omega) rfl, (fun x hx hy => by simp [Value.ownBlock] at hx hy; omega), (h0.out.alloc _).alloc _, (HN1.out.alloc _).alloc _, HV.out⟩
  case round =>
    obtain ⟨k, st, hk1, rfl, hst, hsk, ho1, ho2, hdis, hh0, hnx, hgo⟩ := hrel
    have HNX := Lib.hid hnx
    have cat := HNX.out.cell HC.out
    have zat := block_lt cat
    by_cases hlt : k < ls.length
    · obtain ⟨lk, hlk⟩ : ∃ x, ls[k]? = some x := ⟨_, List.getElem?_eq_getElem hlt⟩
      obtain ⟨g', o', c', u2, he, _, hc2, hT2⟩ := line_at (HL.out.nx HNX.out) k lk hlk
      cases he
      have hd : ls.drop k = lk :: ls.drop (k + 1) := by
        obtain ⟨h1, e1⟩ := List.getElem?_eq_some_iff.1 hlk
        rw [List.drop_eq_getElem_cons h1, e1]
      rw [hd] at hgo
      obtain ⟨ka, kb, hbk⟩ := badAt_form lk
      have HBK := Lib.hid hbk
      have C3 := Lib.hid (kindR_any u2 lk wr hT2)
      obtain ⟨⟨tk, el⟩, rest, rfl⟩ : ∃ x r, st = x :: r := by cases st with | nil => exact absurd rfl hst | cons x r => exact ⟨x, r, rfl⟩
      rw [List.length_cons] at ho1 ho2 hsk
      obtain ⟨g1, cap1, rfl, hg1, hg1c, hg1m⟩ := ho1.some (by omega)
      obtain ⟨g2, cap2, rfl, hg2, hg2c, hg2m⟩ := ho2.some (by omega)
      have hne : g1 ≠ g2 := fun e => hdis g1 rfl (by rw [e]; rfl)
      rw [goR] at hgo
      have hq7 := kindP_le lk
      go_wp2_with fail
      refine C3.out.mono ?_
      rintro e w2 ⟨rfl, hn2⟩
      have CE := Lib.hid (fun w3 (hn : Nx w2 w3) => at_v u2 lk ka kb 15 w3 ((hT2.nx hn2).nx hn) hbk)
      have hc3 := hn2.cell hc2
      have zc3 := block_lt hc3
      have ho1' := ho1.nx hn2
      have ho2' := ho2.nx hn2
      have x1 := ho1'.cells rfl _ _ (kC_top tk el rest).1
      have x2 := ho2'.cells rfl _ _ (eC_top tk el rest).1
      have f2 := ho2'.free (g := g2) rfl rest.length
      have z1 := block_lt x1
      have z2 := block_lt x2
      have HO1 := Lib.hid ho1'
      have HO2 := Lib.hid ho2'
      have HH := Lib.hid (hh0.nx hn2)
      have HX2 := Lib.hid (HNX.out.trans hn2)
      have HNE := Lib.hid hne
      have hm : rest.length ≤ 1000000 := by omega
      have hm0 : 0 ≤ (rest.length : Int) := by omega
      have hmI : (rest.length : Int) < (rest.length : Int) + 1 := by omega
      generalize hkq : kindP lk = q at *
      have HKQ := Lib.hid hkq
      clear hnx ho1 ho2 ho1' ho2' hst hd hlk hT2 hn2 hdis hh0 hbk hkq hc2 cat zat hne
      rcases (by omega : q = 0 ∨ q = 1 ∨ q = 2 ∨ q = 3 ∨ q = 4 ∨ q = 5 ∨ q = 6 ∨ q = 7) with rfl | rfl | rfl | rfl | rfl | rfl | rfl | rfl
      · rw [if_neg (show ¬ begB 0 = true by decide), if_pos rfl] at hgo
        have HG := Lib.hid hgo
        clear hgo
        go_wp2
        go_roundw
        case rel => exact ⟨k + 1, (tk, el) :: rest, by omega, by go_num, by simp, by simp; omega, HO1.out, HO2.out, (fun x hx hy => HNE.out (by simp [Value.ownBlock] at hx hy; omega)), HH.out, HX2.out, HG.out⟩
        case measure => simp [intOf]; omega
      · rw [if_pos (show begB 1 = true by decide)] at hgo
        have HG := Lib.hid hgo
        clear hgo
        have zb : w.heap.size + 1 ≤ w2.heap.size := HH.out.lt
        have hA1 := Lib.hid (HO1.out.alloc (.cells #[.int .i64 1] 3))
        obtain ⟨hi, hz0, hz1, hz2⟩ := HI.out
        go_wp2_with (at_builtin; refine wpList_append_c _ rfl _ _ 81 rfl (w.heap.size + 1) 3 i0 (.int .i64 0) 1 8 Tryd.underlying81 hi hz0 hz1 hz2 rfl (by decide) _ _ _ rfl hA1.out (some ⟨w2.heap.size, 0, none⟩) 1 1 [.int .i64 1] rfl rfl (Or.inr ⟨_, rfl, ?c1⟩) ?c2 ?c3 ?c4 ?c5 ?_)
        case c1 =>
          intro j x hj
          have hj2 : j = 0 := by have := (List.getElem?_eq_some_iff.1 hj).1; simp at this; omega
          subst hj2
          cases hj
          simp [Addr.add]
        case c2 => simp [Value.oneCell']
        case c3 => unfold maxLen; omega
        case c4 => omega
        case c5 => simp; omega
        intro v3 w3 hown3 hgr3 hbl3
        have hbl4 : v3.ownBlock = some g1 ∨ v3.ownBlock = some (w2.heap.size + 1) := by simpa [Value.ownBlock] using hbl3
        have hx3 : Nx w w3 := Below.grown (HX2.out.alloc _) hgr3 (by simp; omega) (fun x hx => by simp [Value.ownBlock] at hx; omega)
        have ho4 := ownC_grown (HO2.out.alloc (.cells #[.int .i64 1] 3)) hgr3 (fun x hx hy => HNE.out (by simp [Value.ownBlock] at hx hy; omega))
        have hh3 := (HH.out.alloc (.cells #[.int .i64 1] 3)).grown hgr3 (by simp [Value.ownBlock]; omega)
        have hz3 : w2.heap.size + 1 ≤ w3.heap.size := by have := hgr3.size; simp at this; omega
        have HO3 := Lib.hid hown3
        have HO4 := Lib.hid ho4
        have HH3 := Lib.hid hh3
        have HX3 := Lib.hid hx3
        have HBL := Lib.hid hbl4
        have hA2 := Lib.hid (ho4.alloc (.cells #[.int .i64 (-1)] 3))
        clear hown3 hgr3 hbl3 hbl4 hx3 ho4 hh3 hA1
        go_wp2_with (at_builtin; refine wpList_append_c _ rfl _ _ 81 rfl (w.heap.size + 1) 3 i0 (.int .i64 0) 1 8 Tryd.underlying81 hi hz0 hz1 hz2 rfl (by decide) _ _ _ rfl hA2.out (some ⟨w3.heap.size, 0, none⟩) 1 1 [.int .i64 (-1)] rfl rfl (Or.inr ⟨_, rfl, ?d1⟩) ?d2 ?d3 ?d4 ?d5 ?_)
        case d1 =>
          intro j x hj
          have hj2 : j = 0 := by have := (List.getElem?_eq_some_iff.1 hj).1; simp at this; omega
          subst hj2
          cases hj
          simp [Addr.add]
        case d2 => simp [Value.oneCell']
        case d3 => unfold maxLen; omega
        case d4 => omega
        case d5 => simp; omega
        intro v4 w4 hown4 hgr4 hbl5
        have hbl6 : v4.ownBlock = some g2 ∨ v4.ownBlock = some (w3.heap.size + 1) := by simpa [Value.ownBlock] using hbl5
        have HL3 := HO3.out.lt
        have hx4 := Lib.hid (show Nx w w4 from Below.grown (HX3.out.alloc _) hgr4 (by simp; omega) (fun x hx => by simp [Value.ownBlock] at hx; omega))
        have ho5 := Lib.hid (ownC_grown (HO3.out.alloc (.cells #[.int .i64 (-1)] 3)) hgr4 (fun x hx hy => by
          simp [Value.ownBlock] at hy
          rcases HBL.out with h | h <;> (rw [h] at hx; simp at hx; have := HNE.out; omega)))
        have hh4 := Lib.hid ((HH3.out.alloc (.cells #[.int .i64 (-1)] 3)).grown hgr4 (by simp [Value.ownBlock]; omega))
        have HO6 := Lib.hid hown4
        have hdis := Lib.hid (fun x (hx : v3.ownBlock = some x) (hy : v4.ownBlock = some x) => (show False by
          have h3 := HL3 x hx
          rcases hbl6 with h | h <;> (rw [h] at hy; simp at hy)
          · rcases HBL.out with h' | h' <;> (rw [h'] at hx; simp at hx; have := HNE.out; omega)
          · omega))
        clear hown4 hgr4 hbl5 hbl6 hA2 HL3
        go_wp2
        go_roundw
        case rel => exact ⟨k + 1, (1, -1) :: (tk, el) :: rest, by omega, by go_num, by simp, by simp; omega, by rw [kC_cons]; exact ho5.out, by rw [eC_cons]; exact HO6.out, hdis.out, hh4.out, hx4.out, HG.out⟩
        case measure => simp [intOf]; omega
      · rw [if_neg (show ¬ begB 2 = true by decide), if_neg (show ¬ (2 : Nat) = 0 by decide)] at hgo
        rw [if_neg (show ¬ (2 : Nat) = 6 by decide)] at hgo
        by_cases htk : tk = 1
        · subst htk
          have tq : (((1 : Nat) : Int) != 1) = false := by decide
          rw [if_neg (by simp)] at hgo
          by_cases hre : rest = []
          · rw [if_pos hre] at hgo
            have HG := Lib.hid hgo
            clear hgo
            subst hre
            simp only [List.length_nil] at x1 x2 f2 hg1c hg2c
            have hh := HH.out
            unfold ro0 at hh
            have r0 := hh.cell 0 _ rfl
            have r1 := hh.cell 1 _ rfl
            have r2 := hh.cell 2 _ rfl
            have f0 := hh.free 0
            have f1 := hh.free 1
            have f2' := hh.free 2
            have zr := hh.lt
            clear hh
            go_wp2
            go_region
            all_goals go_wp2
            all_goals
              refine bodyPost_ret (v := .tuple #[.int .i64 k, .int .i64 el, .agg #[.int .i64 0, .int .i64 0, .int .i64 0]]) (by simp [results, Tryd.results20, go_sem, r0, r1, r2, f0, f1, f2']) rfl ⟨by rw [← HG.out]; rfl, ?_⟩
              repeat (with_reducible first | exact HX2.out | refine Nx.drew ?_ | refine Nx.setCell ?_ (Nat.le_refl _) _ | refine Nx.alloc ?_ _)
          · have HR := Lib.hid (show 0 < rest.length by cases rest with | nil => exact absurd rfl hre | cons _ _ => simp)
            rw [if_neg hre] at hgo
            have HG := Lib.hid hgo
            clear hgo
            obtain ⟨m, hmm⟩ : ∃ m, m = rest.length := ⟨_, rfl⟩
            have hm1 : 0 < m := by rw [hmm]; exact HR.out
            have HM := Lib.hid hmm
            rw [← hmm] at x1 x2 f2 hg1c hg2c hm hm0 hmI hsk HO1 HO2 ⊢
            clear hmm
            have hz1 : ((m : Int) + 1 == 1) = false := by simp; omega
            have zb : w.heap.size + 1 ≤ w2.heap.size := HH.out.lt
            obtain ⟨hi, hz0, hz1', hz2⟩ := HI.out
            have hA1 := Lib.hid (OwnC.made w2 (w.heap.size + 1) 3 1 #[] 0 zb (by unfold maxLen; omega) (by simp))
            have hs1 := Lib.hid (fun (j : Nat) (x : Value) (hj : (kC rest)[j]? = some x) => (show (w2.alloc (.cells #[] 3)).cell? ((⟨g1, 0, none⟩ : Addr).add j) = some x by
              rw [show (⟨g1, 0, none⟩ : Addr).add j = ⟨g1, j, none⟩ by unfold Addr.add; split <;> simp_all]
              refine (HO1.out.alloc _).cells rfl j x ?_
              have := (kC_top 1 el rest).2
              rw [← this] at hj
              exact take_some _ _ _ _ hj))
            go_wp2_with (at_builtin; refine wpList_append_c _ rfl _ _ 81 rfl (w.heap.size + 1) 3 i0 (.int .i64 0) 1 8 Tryd.underlying81 hi hz0 hz1' hz2 rfl (by decide) _ _ _ rfl hA1.out (some ⟨g1, 0, none⟩) m cap1 (kC rest) rfl ?c0 (Or.inr ⟨_, rfl, hs1.out⟩) ?c2 ?c3 ?c4 ?c5 ?_)
            case c0 => rw [kC_len, HM.out]; omega
            case c2 => exact kC_one rest
            case c3 => unfold maxLen; omega
            case c4 => omega
            case c5 => simp; omega
            intro v3 w3 hown3 hgr3 hbl3
            have hbl4 : v3.ownBlock = some w2.heap.size ∨ v3.ownBlock = some (w2.heap.size + 1) := by simpa [Value.ownBlock] using hbl3
            have hx3 : Nx w w3 := Below.grown (HX2.out.alloc _) hgr3 (by simp; omega) (fun x hx => by simp [Value.ownBlock] at hx; omega)
            have ho4 := ownC_grown (HO2.out.alloc (.cells #[] 3)) hgr3 (fun x hx hy => by simp [Value.ownBlock] at hx hy; omega)
            have hh3 := (HH.out.alloc (.cells #[] 3)).grown hgr3 (by simp [Value.ownBlock]; omega)
            have hz3 : w2.heap.size + 1 ≤ w3.heap.size := by have := hgr3.size; simp at this; omega
            have hown3 : OwnC w3 (w.heap.size + 1) 3 1 v3 m (kC rest) := by simpa using hown3
            have HO3 := Lib.hid hown3
            have HO4 := Lib.hid ho4
            have HH3 := Lib.hid hh3
            have HX3 := Lib.hid hx3
            have HBL := Lib.hid hbl4
            have hA2 := Lib.hid (OwnC.made w3 (w.heap.size + 1) 3 1 #[] 0 (by omega) (by unfold maxLen; omega) (by simp))
            have hs2 := Lib.hid (fun (j : Nat) (x : Value) (hj : (eC rest)[j]? = some x) => (show (w3.alloc (.cells #[] 3)).cell? ((⟨g2, 0, none⟩ : Addr).add j) = some x by
              rw [show (⟨g2, 0, none⟩ : Addr).add j = ⟨g2, j, none⟩ by unfold Addr.add; split <;> simp_all]
              refine (HO4.out.alloc _).cells rfl j x ?_
              have := (eC_top 1 el rest).2.1
              rw [← this] at hj
              exact take_some _ _ _ _ hj))
            clear hown3 hgr3 hbl3 hbl4 hx3 ho4 hh3 hA1 hs1
            go_wp2_with (at_builtin; refine wpList_append_c _ rfl _ _ 81 rfl (w.heap.size + 1) 3 i0 (.int .i64 0) 1 8 Tryd.underlying81 hi hz0 hz1' hz2 rfl (by decide) _ _ _ rfl hA2.out (some ⟨g2, 0, none⟩) m cap2 (eC rest) rfl ?d0 (Or.inr ⟨_, rfl, hs2.out⟩) ?d2 ?d3 ?d4 ?d5 ?_)
            case d0 => rw [eC_len, HM.out]; omega
            case d2 => exact eC_one rest
            case d3 => unfold maxLen; omega
            case d4 => omega
            case d5 => simp; omega
            intro v4 w4 hown4 hgr4 hbl5
            have hbl6 : v4.ownBlock = some w3.heap.size ∨ v4.ownBlock = some (w3.heap.size + 1) := by simpa [Value.ownBlock] using hbl5
            have HL3 := HO3.out.lt
            have hx4 := Lib.hid (show Nx w w4 from Below.grown (HX3.out.alloc _) hgr4 (by simp; omega) (fun x hx => by simp [Value.ownBlock] at hx; omega))
            have ho5 := Lib.hid (ownC_grown (HO3.out.alloc (.cells #[] 3)) hgr4 (fun x hx hy => by
              simp [Value.ownBlock] at hy
              have := HL3 x hx
              omega))
            have hh4 := Lib.hid ((HH3.out.alloc (.cells #[] 3)).grown hgr4 (by simp [Value.ownBlock]; omega))
            have hown4 : OwnC w4 (w.heap.size + 1) 3 1 v4 m (eC rest) := by simpa using hown4
            have HO6 := Lib.hid hown4
            have hdis := Lib.hid (fun x (hx : v3.ownBlock = some x) (hy : v4.ownBlock = some x) => (show False by
              have h3 := HL3 x hx
              rcases hbl6 with h | h <;> (rw [h] at hy; simp at hy; omega)))
            clear hown4 hgr4 hbl5 hbl6 hA2 HL3 hs2
            go_wp2
            go_roundw
            case rel => exact ⟨k + 1, rest, by omega, by go_num, hre, by rw [← HM.out]; omega, by rw [← HM.out]; exact ho5.out, by rw [← HM.out]; exact HO6.out, hdis.out, hh4.out, hx4.out, HG.out⟩
            case measure => simp [intOf]; omega
        · have tq : ((tk : Int) != 1) = true := by simp; omega
          rw [if_pos (by simp [htk])] at hgo
          clear htk
          have hgo2 := hgo
          rw [HBK.out] at hgo2
          have HG := Lib.hid hgo2
          clear hgo hgo2
          go_wp2_with fail
          refine (CE.out _ (Nx.refl _)).mono ?_
          rintro e w3 ⟨rfl, hn3⟩
          have hh := HH.out.nx hn3
          unfold ro0 at hh
          have r0 := hh.cell 0 _ rfl
          have r1 := hh.cell 1 _ rfl
          have r2 := hh.cell 2 _ rfl
          have f0 := hh.free 0
          have f1 := hh.free 1
          have f2 := hh.free 2
          have HX3 := Lib.hid (HX2.out.trans hn3)
          clear hn3 hh
          go_wp2
          refine bodyPost_ret (v := .tuple #[.int .i64 0, .int .i64 0, .agg #[.int .i64 ka, .int .i64 kb, .int .i64 15]]) (by simp [results, Tryd.results20, go_sem, r0, r1, r2]) rfl ⟨by rw [← HG.out]; rfl, ?_⟩
          repeat (with_reducible first | exact HX3.out | refine Nx.setCell ?_ (Nat.le_refl _) _ | refine Nx.alloc ?_ _)
      · rw [if_pos (show begB 3 = true by decide)] at hgo
        have HG := Lib.hid hgo
        clear hgo
        have zb : w.heap.size + 1 ≤ w2.heap.size := HH.out.lt
        have hA1 := Lib.hid (HO1.out.alloc (.cells #[.int .i64 3] 3))
        obtain ⟨hi, hz0, hz1, hz2⟩ := HI.out
        go_wp2_with (at_builtin; refine wpList_append_c _ rfl _ _ 81 rfl (w.heap.size + 1) 3 i0 (.int .i64 0) 1 8 Tryd.underlying81 hi hz0 hz1 hz2 rfl (by decide) _ _ _ rfl hA1.out (some ⟨w2.heap.size, 0, none⟩) 1 1 [.int .i64 3] rfl rfl (Or.inr ⟨_, rfl, ?c1⟩) ?c2 ?c3 ?c4 ?c5 ?_)
        case c1 =>
          intro j x hj
          have hj2 : j = 0 := by have := (List.getElem?_eq_some_iff.1 hj).1; simp at this; omega
          subst hj2
          cases hj
          simp [Addr.add]
        case c2 => simp [Value.oneCell']
        case c3 => unfold maxLen; omega
        case c4 => omega
        case c5 => simp; omega
        intro v3 w3 hown3 hgr3 hbl3
        have hbl4 : v3.ownBlock = some g1 ∨ v3.ownBlock = some (w2.heap.size + 1) := by simpa [Value.ownBlock] using hbl3
        have hx3 : Nx w w3 := Below.grown (HX2.out.alloc _) hgr3 (by simp; omega) (fun x hx => by simp [Value.ownBlock] at hx; omega)
        have ho4 := ownC_grown (HO2.out.alloc (.cells #[.int .i64 3] 3)) hgr3 (fun x hx hy => HNE.out (by simp [Value.ownBlock] at hx hy; omega))
        have hh3 := (HH.out.alloc (.cells #[.int .i64 3] 3)).grown hgr3 (by simp [Value.ownBlock]; omega)
        have hz3 : w2.heap.size + 1 ≤ w3.heap.size := by have := hgr3.size; simp at this; omega
        have HO3 := Lib.hid hown3
        have HO4 := Lib.hid ho4
        have HH3 := Lib.hid hh3
        have HX3 := Lib.hid hx3
        have HBL := Lib.hid hbl4
        have hA2 := Lib.hid (ho4.alloc (.cells #[.int .i64 (-1)] 3))
        clear hown3 hgr3 hbl3 hbl4 hx3 ho4 hh3 hA1
        go_wp2_with (at_builtin; refine wpList_append_c _ rfl _ _ 81 rfl (w.heap.size + 1) 3 i0 (.int .i64 0) 1 8 Tryd.underlying81 hi hz0 hz1 hz2 rfl (by decide) _ _ _ rfl hA2.out (some ⟨w3.heap.size, 0, none⟩) 1 1 [.int .i64 (-1)] rfl rfl (Or.inr ⟨_, rfl, ?d1⟩) ?d2 ?d3 ?d4 ?d5 ?_)
        case d1 =>
          intro j x hj
          have hj2 : j = 0 := by have := (List.getElem?_eq_some_iff.1 hj).1; simp at this; omega
          subst hj2
          cases hj
          simp [Addr.add]
        case d2 => simp [Value.oneCell']
        case d3 => unfold maxLen; omega
        case d4 => omega
        case d5 => simp; omega
        intro v4 w4 hown4 hgr4 hbl5
        have hbl6 : v4.ownBlock = some g2 ∨ v4.ownBlock = some (w3.heap.size + 1) := by simpa [Value.ownBlock] using hbl5
        have HL3 := HO3.out.lt
        have hx4 := Lib.hid (show Nx w w4 from Below.grown (HX3.out.alloc _) hgr4 (by simp; omega) (fun x hx => by simp [Value.ownBlock] at hx; omega))
        have ho5 := Lib.hid (ownC_grown (HO3.out.alloc (.cells #[.int .i64 (-1)] 3)) hgr4 (fun x hx hy => by
          simp [Value.ownBlock] at hy
          rcases HBL.out with h | h <;> (rw [h] at hx; simp at hx; have := HNE.out; omega)))
        have hh4 := Lib.hid ((HH3.out.alloc (.cells #[.int .i64 (-1)] 3)).grown hgr4 (by simp [Value.ownBlock]; omega))
        have HO6 := Lib.hid hown4
        have hdis := Lib.hid (fun x (hx : v3.ownBlock = some x) (hy : v4.ownBlock = some x) => (show False by
          have h3 := HL3 x hx
          rcases hbl6 with h | h <;> (rw [h] at hy; simp at hy)
          · rcases HBL.out with h' | h' <;> (rw [h'] at hx; simp at hx; have := HNE.out; omega)
          · omega))
        clear hown4 hgr4 hbl5 hbl6 hA2 HL3
        go_wp2
        go_roundw
        case rel => exact ⟨k + 1, (3, -1) :: (tk, el) :: rest, by omega, by go_num, by simp, by simp; omega, by rw [kC_cons]; exact ho5.out, by rw [eC_cons]; exact HO6.out, hdis.out, hh4.out, hx4.out, HG.out⟩
        case measure => simp [intOf]; omega
      · rw [if_neg (show ¬ begB 4 = true by decide), if_neg (show ¬ (4 : Nat) = 0 by decide)] at hgo
        rw [if_neg (show ¬ (4 : Nat) = 6 by decide)] at hgo
        by_cases htk : tk = 3
        · subst htk
          have tq : (((3 : Nat) : Int) != 3) = false := by decide
          rw [if_neg (by simp)] at hgo
          by_cases hre : rest = []
          · rw [if_pos hre] at hgo
            have HG := Lib.hid hgo
            clear hgo
            subst hre
            simp only [List.length_nil] at x1 x2 f2 hg1c hg2c
            have hh := HH.out
            unfold ro0 at hh
            have r0 := hh.cell 0 _ rfl
            have r1 := hh.cell 1 _ rfl
            have r2 := hh.cell 2 _ rfl
            have f0 := hh.free 0
            have f1 := hh.free 1
            have f2' := hh.free 2
            have zr := hh.lt
            clear hh
            go_wp2
            go_region
            all_goals go_wp2
            all_goals
              refine bodyPost_ret (v := .tuple #[.int .i64 k, .int .i64 el, .agg #[.int .i64 0, .int .i64 0, .int .i64 0]]) (by simp [results, Tryd.results20, go_sem, r0, r1, r2, f0, f1, f2']) rfl ⟨by rw [← HG.out]; rfl, ?_⟩
              repeat (with_reducible first | exact HX2.out | refine Nx.drew ?_ | refine Nx.setCell ?_ (Nat.le_refl _) _ | refine Nx.alloc ?_ _)
          · have HR := Lib.hid (show 0 < rest.length by cases rest with | nil => exact absurd rfl hre | cons _ _ => simp)
            rw [if_neg hre] at hgo
            have HG := Lib.hid hgo
            clear hgo
            obtain ⟨m, hmm⟩ : ∃ m, m = rest.length := ⟨_, rfl⟩
            have hm1 : 0 < m := by rw [hmm]; exact HR.out
            have HM := Lib.hid hmm
            rw [← hmm] at x1 x2 f2 hg1c hg2c hm hm0 hmI hsk HO1 HO2 ⊢
            clear hmm
            have hz1 : ((m : Int) + 1 == 1) = false := by simp; omega
            have zb : w.heap.size + 1 ≤ w2.heap.size := HH.out.lt
            obtain ⟨hi, hz0, hz1', hz2⟩ := HI.out
            have hA1 := Lib.hid (OwnC.made w2 (w.heap.size + 1) 3 1 #[] 0 zb (by unfold maxLen; omega) (by simp))
            have hs1 := Lib.hid (fun (j : Nat) (x : Value) (hj : (kC rest)[j]? = some x) => (show (w2.alloc (.cells #[] 3)).cell? ((⟨g1, 0, none⟩ : Addr).add j) = some x by
              rw [show (⟨g1, 0, none⟩ : Addr).add j = ⟨g1, j, none⟩ by unfold Addr.add; split <;> simp_all]
              refine (HO1.out.alloc _).cells rfl j x ?_
              have := (kC_top 3 el rest).2
              rw [← this] at hj
              exact take_some _ _ _ _ hj))
            go_wp2_with (at_builtin; refine wpList_append_c _ rfl _ _ 81 rfl (w.heap.size + 1) 3 i0 (.int .i64 0) 1 8 Tryd.underlying81 hi hz0 hz1' hz2 rfl (by decide) _ _ _ rfl hA1.out (some ⟨g1, 0, none⟩) m cap1 (kC rest) rfl ?c0 (Or.inr ⟨_, rfl, hs1.out⟩) ?c2 ?c3 ?c4 ?c5 ?_)
            case c0 => rw [kC_len, HM.out]; omega
            case c2 => exact kC_one rest
            case c3 => unfold maxLen; omega
            case c4 => omega
            case c5 => simp; omega
            intro v3 w3 hown3 hgr3 hbl3
            have hbl4 : v3.ownBlock = some w2.heap.size ∨ v3.ownBlock = some (w2.heap.size + 1) := by simpa [Value.ownBlock] using hbl3
            have hx3 : Nx w w3 := Below.grown (HX2.out.alloc _) hgr3 (by simp; omega) (fun x hx => by simp [Value.ownBlock] at hx; omega)
            have ho4 := ownC_grown (HO2.out.alloc (.cells #[] 3)) hgr3 (fun x hx hy => by simp [Value.ownBlock] at hx hy; omega)
            have hh3 := (HH.out.alloc (.cells #[] 3)).grown hgr3 (by simp [Value.ownBlock]; omega)
            have hz3 : w2.heap.size + 1 ≤ w3.heap.size := by have := hgr3.size; simp at this; omega
            have hown3 : OwnC w3 (w.heap.size + 1) 3 1 v3 m (kC rest) := by simpa using hown3
            have HO3 := Lib.hid hown3
            have HO4 := Lib.hid ho4
            have HH3 := Lib.hid hh3
            have HX3 := Lib.hid hx3
            have HBL := Lib.hid hbl4
            have hA2 := Lib.hid (OwnC.made w3 (w.heap.size + 1) 3 1 #[] 0 (by omega) (by unfold maxLen; omega) (by simp))
            have hs2 := Lib.hid (fun (j : Nat) (x : Value) (hj : (eC rest)[j]? = some x) => (show (w3.alloc (.cells #[] 3)).cell? ((⟨g2, 0, none⟩ : Addr).add j) = some x by
              rw [show (⟨g2, 0, none⟩ : Addr).add j = ⟨g2, j, none⟩ by unfold Addr.add; split <;> simp_all]
              refine (HO4.out.alloc _).cells rfl j x ?_
              have := (eC_top 3 el rest).2.1
              rw [← this] at hj
              exact take_some _ _ _ _ hj))
            clear hown3 hgr3 hbl3 hbl4 hx3 ho4 hh3 hA1 hs1
            go_wp2_with (at_builtin; refine wpList_append_c _ rfl _ _ 81 rfl (w.heap.size + 1) 3 i0 (.int .i64 0) 1 8 Tryd.underlying81 hi hz0 hz1' hz2 rfl (by decide) _ _ _ rfl hA2.out (some ⟨g2, 0, none⟩) m cap2 (eC rest) rfl ?d0 (Or.inr ⟨_, rfl, hs2.out⟩) ?d2 ?d3 ?d4 ?d5 ?_)
            case d0 => rw [eC_len, HM.out]; omega
            case d2 => exact eC_one rest
            case d3 => unfold maxLen; omega
            case d4 => omega
            case d5 => simp; omega
            intro v4 w4 hown4 hgr4 hbl5
            have hbl6 : v4.ownBlock = some w3.heap.size ∨ v4.ownBlock = some (w3.heap.size + 1) := by simpa [Value.ownBlock] using hbl5
            have HL3 := HO3.out.lt
            have hx4 := Lib.hid (show Nx w w4 from Below.grown (HX3.out.alloc _) hgr4 (by simp; omega) (fun x hx => by simp [Value.ownBlock] at hx; omega))
            have ho5 := Lib.hid (ownC_grown (HO3.out.alloc (.cells #[] 3)) hgr4 (fun x hx hy => by
              simp [Value.ownBlock] at hy
              have := HL3 x hx
              omega))
            have hh4 := Lib.hid ((HH3.out.alloc (.cells #[] 3)).grown hgr4 (by simp [Value.ownBlock]; omega))
            have hown4 : OwnC w4 (w.heap.size + 1) 3 1 v4 m (eC rest) := by simpa using hown4
            have HO6 := Lib.hid hown4
            have hdis := Lib.hid (fun x (hx : v3.ownBlock = some x) (hy : v4.ownBlock = some x) => (show False by
              have h3 := HL3 x hx
              rcases hbl6 with h | h <;> (rw [h] at hy; simp at hy; omega)))
            clear hown4 hgr4 hbl5 hbl6 hA2 HL3 hs2
            go_wp2
            go_roundw
            case rel => exact ⟨k + 1, rest, by omega, by go_num, hre, by rw [← HM.out]; omega, by rw [← HM.out]; exact ho5.out, by rw [← HM.out]; exact HO6.out, hdis.out, hh4.out, hx4.out, HG.out⟩
            case measure => simp [intOf]; omega
        · have tq : ((tk : Int) != 3) = true := by simp; omega
          rw [if_pos (by simp [htk])] at hgo
          clear htk
          have hgo2 := hgo
          rw [HBK.out] at hgo2
          have HG := Lib.hid hgo2
          clear hgo hgo2
          go_wp2_with fail
          refine (CE.out _ (Nx.refl _)).mono ?_
          rintro e w3 ⟨rfl, hn3⟩
          have hh := HH.out.nx hn3
          unfold ro0 at hh
          have r0 := hh.cell 0 _ rfl
          have r1 := hh.cell 1 _ rfl
          have r2 := hh.cell 2 _ rfl
          have f0 := hh.free 0
          have f1 := hh.free 1
          have f2 := hh.free 2
          have HX3 := Lib.hid (HX2.out.trans hn3)
          clear hn3 hh
          go_wp2
          refine bodyPost_ret (v := .tuple #[.int .i64 0, .int .i64 0, .agg #[.int .i64 ka, .int .i64 kb, .int .i64 15]]) (by simp [results, Tryd.results20, go_sem, r0, r1, r2]) rfl ⟨by rw [← HG.out]; rfl, ?_⟩
          repeat (with_reducible first | exact HX3.out | refine Nx.setCell ?_ (Nat.le_refl _) _ | refine Nx.alloc ?_ _)
      · rw [if_pos (show begB 5 = true by decide)] at hgo
        have HG := Lib.hid hgo
        clear hgo
        have zb : w.heap.size + 1 ≤ w2.heap.size := HH.out.lt
        have hA1 := Lib.hid (HO1.out.alloc (.cells #[.int .i64 5] 3))
        obtain ⟨hi, hz0, hz1, hz2⟩ := HI.out
        go_wp2_with (at_builtin; refine wpList_append_c _ rfl _ _ 81 rfl (w.heap.size + 1) 3 i0 (.int .i64 0) 1 8 Tryd.underlying81 hi hz0 hz1 hz2 rfl (by decide) _ _ _ rfl hA1.out (some ⟨w2.heap.size, 0, none⟩) 1 1 [.int .i64 5] rfl rfl (Or.inr ⟨_, rfl, ?c1⟩) ?c2 ?c3 ?c4 ?c5 ?_)
        case c1 =>
          intro j x hj
          have hj2 : j = 0 := by have := (List.getElem?_eq_some_iff.1 hj).1; simp at this; omega
          subst hj2
          cases hj
          simp [Addr.add]
        case c2 => simp [Value.oneCell']
        case c3 => unfold maxLen; omega
        case c4 => omega
        case c5 => simp; omega
        intro v3 w3 hown3 hgr3 hbl3
        have hbl4 : v3.ownBlock = some g1 ∨ v3.ownBlock = some (w2.heap.size + 1) := by simpa [Value.ownBlock] using hbl3
        have hx3 : Nx w w3 := Below.grown (HX2.out.alloc _) hgr3 (by simp; omega) (fun x hx => by simp [Value.ownBlock] at hx; omega)
        have ho4 := ownC_grown (HO2.out.alloc (.cells #[.int .i64 5] 3)) hgr3 (fun x hx hy => HNE.out (by simp [Value.ownBlock] at hx hy; omega))
        have hh3 := (HH.out.alloc (.cells #[.int .i64 5] 3)).grown hgr3 (by simp [Value.ownBlock]; omega)
        have hz3 : w2.heap.size + 1 ≤ w3.heap.size := by have := hgr3.size; simp at this; omega
        have HO3 := Lib.hid hown3
        have HO4 := Lib.hid ho4
        have HH3 := Lib.hid hh3
        have HX3 := Lib.hid hx3
        have HBL := Lib.hid hbl4
        have hA2 := Lib.hid (ho4.alloc (.cells #[.int .i64 (-1)] 3))
        clear hown3 hgr3 hbl3 hbl4 hx3 ho4 hh3 hA1
        go_wp2_with (at_builtin; refine wpList_append_c _ rfl _ _ 81 rfl (w.heap.size + 1) 3 i0 (.int .i64 0) 1 8 Tryd.underlying81 hi hz0 hz1 hz2 rfl (by decide) _ _ _ rfl hA2.out (some ⟨w3.heap.size, 0, none⟩) 1 1 [.int .i64 (-1)] rfl rfl (Or.inr ⟨_, rfl, ?d1⟩) ?d2 ?d3 ?d4 ?d5 ?_)
        case d1 =>
          intro j x hj
          have hj2 : j = 0 := by have := (List.getElem?_eq_some_iff.1 hj).1; simp at this; omega
          subst hj2
          cases hj
          simp [Addr.add]
        case d2 => simp [Value.oneCell']
        case d3 => unfold maxLen; omega
        case d4 => omega
        case d5 => simp; omega
        intro v4 w4 hown4 hgr4 hbl5
        have hbl6 : v4.ownBlock = some g2 ∨ v4.ownBlock = some (w3.heap.size + 1) := by simpa [Value.ownBlock] using hbl5
        have HL3 := HO3.out.lt
        have hx4 := Lib.hid (show Nx w w4 from Below.grown (HX3.out.alloc _) hgr4 (by simp; omega) (fun x hx => by simp [Value.ownBlock] at hx; omega))
        have ho5 := Lib.hid (ownC_grown (HO3.out.alloc (.cells #[.int .i64 (-1)] 3)) hgr4 (fun x hx hy => by
          simp [Value.ownBlock] at hy
          rcases HBL.out with h | h <;> (rw [h] at hx; simp at hx; have := HNE.out; omega)))
        have hh4 := Lib.hid ((HH3.out.alloc (.cells #[.int .i64 (-1)] 3)).grown hgr4 (by simp [Value.ownBlock]; omega))
        have HO6 := Lib.hid hown4
        have hdis := Lib.hid (fun x (hx : v3.ownBlock = some x) (hy : v4.ownBlock = some x) => (show False by
          have h3 := HL3 x hx
          rcases hbl6 with h | h <;> (rw [h] at hy; simp at hy)
          · rcases HBL.out with h' | h' <;> (rw [h'] at hx; simp at hx; have := HNE.out; omega)
          · omega))
        clear hown4 hgr4 hbl5 hbl6 hA2 HL3
        go_wp2
        go_roundw
        case rel => exact ⟨k + 1, (5, -1) :: (tk, el) :: rest, by omega, by go_num, by simp, by simp; omega, by rw [kC_cons]; exact ho5.out, by rw [eC_cons]; exact HO6.out, hdis.out, hh4.out, hx4.out, HG.out⟩
        case measure => simp [intOf]; omega
      · rw [if_neg (show ¬ begB 6 = true by decide), if_neg (show ¬ (6 : Nat) = 0 by decide)] at hgo
        rw [if_pos rfl] at hgo
        by_cases htk : tk = 5
        · subst htk
          have tq : (((5 : Nat) : Int) != 5) = false := by decide
          by_cases hel : 0 ≤ el
          · rw [if_pos (Or.inr hel)] at hgo
            have hgo2 := hgo
            rw [HBK.out] at hgo2
            have HG := Lib.hid hgo2
            clear hgo hgo2
            go_wp2_with fail
            refine (CE.out _ (Nx.refl _)).mono ?_
            rintro e w3 ⟨rfl, hn3⟩
            have hh := HH.out.nx hn3
            unfold ro0 at hh
            have r0 := hh.cell 0 _ rfl
            have r1 := hh.cell 1 _ rfl
            have r2 := hh.cell 2 _ rfl
            have f0 := hh.free 0
            have f1 := hh.free 1
            have f2 := hh.free 2
            have HX3 := Lib.hid (HX2.out.trans hn3)
            clear hn3 hh
            go_wp2
            refine bodyPost_ret (v := .tuple #[.int .i64 0, .int .i64 0, .agg #[.int .i64 ka, .int .i64 kb, .int .i64 15]]) (by simp [results, Tryd.results20, go_sem, r0, r1, r2]) rfl ⟨by rw [← HG.out]; rfl, ?_⟩
            repeat (with_reducible first | exact HX3.out | refine Nx.setCell ?_ (Nat.le_refl _) _ | refine Nx.alloc ?_ _)
          · rw [if_neg (by intro h; rcases h with h | h; exact h rfl; exact hel h)] at hgo
            have HG := Lib.hid hgo
            clear hgo
            have hS := HO2.out.store rest.length (.int .i64 k) (by omega)
            rw [(eC_top 5 el rest).2.2] at hS
            have HS := Lib.hid hS
            have h7 := Lib.hid (ownC_grown (w' := w2.setCell ⟨g2, rest.length, none⟩ (.int .i64 k)) (row := some g2) HO1.out (setCell_grown w2 _ _) (fun x hx hy => HNE.out (by simp [Value.ownBlock] at hx hy; omega)))
            have h8 := Lib.hid (HH.out.far (p := ⟨g2, rest.length, none⟩) (by show _ ≠ g2; omega) (.int .i64 k))
            have zb : w.heap.size ≤ g2 := by omega
            clear hS
            go_wp2
            go_roundw
            case rel => exact ⟨k + 1, (5, k) :: rest, by omega, by go_num, by simp, by simp; omega, by rw [kC_cons]; have h9 := h7.out; rw [kC_cons] at h9; exact h9, HS.out, (fun x hx hy => HNE.out (by simp [Value.ownBlock] at hx hy; omega)), h8.out, HX2.out.setCell zb _, HG.out⟩
            case measure => simp [intOf]; omega
        · have tq : ((tk : Int) != 5) = true := by simp; omega
          rw [if_pos (Or.inl htk)] at hgo
          clear htk
          have hgo2 := hgo
          rw [HBK.out] at hgo2
          have HG := Lib.hid hgo2
          clear hgo hgo2
          go_wp2_with fail
          refine (CE.out _ (Nx.refl _)).mono ?_
          rintro e w3 ⟨rfl, hn3⟩
          have hh := HH.out.nx hn3
          unfold ro0 at hh
          have r0 := hh.cell 0 _ rfl
          have r1 := hh.cell 1 _ rfl
          have r2 := hh.cell 2 _ rfl
          have f0 := hh.free 0
          have f1 := hh.free 1
          have f2 := hh.free 2
          have HX3 := Lib.hid (HX2.out.trans hn3)
          clear hn3 hh
          go_wp2
          refine bodyPost_ret (v := .tuple #[.int .i64 0, .int .i64 0, .agg #[.int .i64 ka, .int .i64 kb, .int .i64 15]]) (by simp [results, Tryd.results20, go_sem, r0, r1, r2]) rfl ⟨by rw [← HG.out]; rfl, ?_⟩
          repeat (with_reducible first | exact HX3.out | refine Nx.setCell ?_ (Nat.le_refl _) _ | refine Nx.alloc ?_ _)
      · rw [if_neg (show ¬ begB 7 = true by decide), if_neg (show ¬ (7 : Nat) = 0 by decide)] at hgo
        rw [if_neg (show ¬ (7 : Nat) = 6 by decide)] at hgo
        by_cases htk : tk = 5
        · subst htk
          have tq : (((5 : Nat) : Int) != 5) = false := by decide
          rw [if_neg (by simp)] at hgo
          by_cases hre : rest = []
          · rw [if_pos hre] at hgo
            have HG := Lib.hid hgo
            clear hgo
            subst hre
            simp only [List.length_nil] at x1 x2 f2 hg1c hg2c
            have hh := HH.out
            unfold ro0 at hh
            have r0 := hh.cell 0 _ rfl
            have r1 := hh.cell 1 _ rfl
            have r2 := hh.cell 2 _ rfl
            have f0 := hh.free 0
            have f1 := hh.free 1
            have f2' := hh.free 2
            have zr := hh.lt
            clear hh
            go_wp2
            go_region
            all_goals go_wp2
            all_goals
              refine bodyPost_ret (v := .tuple #[.int .i64 k, .int .i64 el, .agg #[.int .i64 0, .int .i64 0, .int .i64 0]]) (by simp [results, Tryd.results20, go_sem, r0, r1, r2, f0, f1, f2']) rfl ⟨by rw [← HG.out]; rfl, ?_⟩
              repeat (with_reducible first | exact HX2.out | refine Nx.drew ?_ | refine Nx.setCell ?_ (Nat.le_refl _) _ | refine Nx.alloc ?_ _)
          · have HR := Lib.hid (show 0 < rest.length by cases rest with | nil => exact absurd rfl hre | cons _ _ => simp)
            rw [if_neg hre] at hgo
            have HG := Lib.hid hgo
            clear hgo
            obtain ⟨m, hmm⟩ : ∃ m, m = rest.length := ⟨_, rfl⟩
            have hm1 : 0 < m := by rw [hmm]; exact HR.out
            have HM := Lib.hid hmm
            rw [← hmm] at x1 x2 f2 hg1c hg2c hm hm0 hmI hsk HO1 HO2 ⊢
            clear hmm
            have hz1 : ((m : Int) + 1 == 1) = false := by simp; omega
            have zb : w.heap.size + 1 ≤ w2.heap.size := HH.out.lt
            obtain ⟨hi, hz0, hz1', hz2⟩ := HI.out
            have hA1 := Lib.hid (OwnC.made w2 (w.heap.size + 1) 3 1 #[] 0 zb (by unfold maxLen; omega) (by simp))
            have hs1 := Lib.hid (fun (j : Nat) (x : Value) (hj : (kC rest)[j]? = some x) => (show (w2.alloc (.cells #[] 3)).cell? ((⟨g1, 0, none⟩ : Addr).add j) = some x by
              rw [show (⟨g1, 0, none⟩ : Addr).add j = ⟨g1, j, none⟩ by unfold Addr.add; split <;> simp_all]
              refine (HO1.out.alloc _).cells rfl j x ?_
              have := (kC_top 5 el rest).2
              rw [← this] at hj
              exact take_some _ _ _ _ hj))
            go_wp2_with (at_builtin; refine wpList_append_c _ rfl _ _ 81 rfl (w.heap.size + 1) 3 i0 (.int .i64 0) 1 8 Tryd.underlying81 hi hz0 hz1' hz2 rfl (by decide) _ _ _ rfl hA1.out (some ⟨g1, 0, none⟩) m cap1 (kC rest) rfl ?c0 (Or.inr ⟨_, rfl, hs1.out⟩) ?c2 ?c3 ?c4 ?c5 ?_)
            case c0 => rw [kC_len, HM.out]; omega
            case c2 => exact kC_one rest
            case c3 => unfold maxLen; omega
            case c4 => omega
            case c5 => simp; omega
            intro v3 w3 hown3 hgr3 hbl3
            have hbl4 : v3.ownBlock = some w2.heap.size ∨ v3.ownBlock = some (w2.heap.size + 1) := by simpa [Value.ownBlock] using hbl3
            have hx3 : Nx w w3 := Below.grown (HX2.out.alloc _) hgr3 (by simp; omega) (fun x hx => by simp [Value.ownBlock] at hx; omega)
            have ho4 := ownC_grown (HO2.out.alloc (.cells #[] 3)) hgr3 (fun x hx hy => by simp [Value.ownBlock] at hx hy; omega)
            have hh3 := (HH.out.alloc (.cells #[] 3)).grown hgr3 (by simp [Value.ownBlock]; omega)
            have hz3 : w2.heap.size + 1 ≤ w3.heap.size := by have := hgr3.size; simp at this; omega
            have hown3 : OwnC w3 (w.heap.size + 1) 3 1 v3 m (kC rest) := by simpa using hown3
            have HO3 := Lib.hid hown3
            have HO4 := Lib.hid ho4
            have HH3 := Lib.hid hh3
            have HX3 := Lib.hid hx3
            have HBL := Lib.hid hbl4
            have hA2 := Lib.hid (OwnC.made w3 (w.heap.size + 1) 3 1 #[] 0 (by omega) (by unfold maxLen; omega) (by simp))
            have hs2 := Lib.hid (fun (j : Nat) (x : Value) (hj : (eC rest)[j]? = some x) => (show (w3.alloc (.cells #[] 3)).cell? ((⟨g2, 0, none⟩ : Addr).add j) = some x by
              rw [show (⟨g2, 0, none⟩ : Addr).add j = ⟨g2, j, none⟩ by unfold Addr.add; split <;> simp_all]
              refine (HO4.out.alloc _).cells rfl j x ?_
              have := (eC_top 5 el rest).2.1
              rw [← this] at hj
              exact take_some _ _ _ _ hj))
            clear hown3 hgr3 hbl3 hbl4 hx3 ho4 hh3 hA1 hs1
            go_wp2_with (at_builtin; refine wpList_append_c _ rfl _ _ 81 rfl (w.heap.size + 1) 3 i0 (.int .i64 0) 1 8 Tryd.underlying81 hi hz0 hz1' hz2 rfl (by decide) _ _ _ rfl hA2.out (some ⟨g2, 0, none⟩) m cap2 (eC rest) rfl ?d0 (Or.inr ⟨_, rfl, hs2.out⟩) ?d2 ?d3 ?d4 ?d5 ?_)
            case d0 => rw [eC_len, HM.out]; omega
            case d2 => exact eC_one rest
            case d3 => unfold maxLen; omega
            case d4 => omega
            case d5 => simp; omega
            intro v4 w4 hown4 hgr4 hbl5
            have hbl6 : v4.ownBlock = some w3.heap.size ∨ v4.ownBlock = some (w3.heap.size + 1) := by simpa [Value.ownBlock] using hbl5
            have HL3 := HO3.out.lt
            have hx4 := Lib.hid (show Nx w w4 from Below.grown (HX3.out.alloc _) hgr4 (by simp; omega) (fun x hx => by simp [Value.ownBlock] at hx; omega))
            have ho5 := Lib.hid (ownC_grown (HO3.out.alloc (.cells #[] 3)) hgr4 (fun x hx hy => by
              simp [Value.ownBlock] at hy
              have := HL3 x hx
              omega))
            have hh4 := Lib.hid ((HH3.out.alloc (.cells #[] 3)).grown hgr4 (by simp [Value.ownBlock]; omega))
            have hown4 : OwnC w4 (w.heap.size + 1) 3 1 v4 m (eC rest) := by simpa using hown4
            have HO6 := Lib.hid hown4
            have hdis := Lib.hid (fun x (hx : v3.ownBlock = some x) (hy : v4.ownBlock = some x) => (show False by
              have h3 := HL3 x hx
              rcases hbl6 with h | h <;> (rw [h] at hy; simp at hy; omega)))
            clear hown4 hgr4 hbl5 hbl6 hA2 HL3 hs2
            go_wp2
            go_roundw
            case rel => exact ⟨k + 1, rest, by omega, by go_num, hre, by rw [← HM.out]; omega, by rw [← HM.out]; exact ho5.out, by rw [← HM.out]; exact HO6.out, hdis.out, hh4.out, hx4.out, HG.out⟩
            case measure => simp [intOf]; omega
        · have tq : ((tk : Int) != 5) = true := by simp; omega
          rw [if_pos (by simp [htk])] at hgo
          clear htk
          have hgo2 := hgo
          rw [HBK.out] at hgo2
          have HG := Lib.hid hgo2
          clear hgo hgo2
          go_wp2_with fail
          refine (CE.out _ (Nx.refl _)).mono ?_
          rintro e w3 ⟨rfl, hn3⟩
          have hh := HH.out.nx hn3
          unfold ro0 at hh
          have r0 := hh.cell 0 _ rfl
          have r1 := hh.cell 1 _ rfl
          have r2 := hh.cell 2 _ rfl
          have f0 := hh.free 0
          have f1 := hh.free 1
          have f2 := hh.free 2
          have HX3 := Lib.hid (HX2.out.trans hn3)
          clear hn3 hh
          go_wp2
          refine bodyPost_ret (v := .tuple #[.int .i64 0, .int .i64 0, .agg #[.int .i64 ka, .int .i64 kb, .int .i64 15]]) (by simp [results, Tryd.results20, go_sem, r0, r1, r2]) rfl ⟨by rw [← HG.out]; rfl, ?_⟩
          repeat (with_reducible first | exact HX3.out | refine Nx.setCell ?_ (Nat.le_refl _) _ | refine Nx.alloc ?_ _)
    · obtain rfl : k = ls.length := by omega
      have hgo' : badAt l = V := by
        rw [← hgo, List.drop_length]
        cases st <;> rfl
      rw [HBD.out] at hgo'
      have HG := Lib.hid hgo'
      have HH := Lib.hid hh0
      clear hgo hgo' ho1 ho2 hnx hst hdis hh0
      go_wp2_with fail
      refine (CF.out _ HNX.out).mono ?_
      rintro e w3 ⟨rfl, hn3⟩
      have hh := HH.out.nx hn3
      unfold ro0 at hh
      have r0 := hh.cell 0 _ rfl
      have r1 := hh.cell 1 _ rfl
      have r2 := hh.cell 2 _ rfl
      have f0 := hh.free 0
      have f1 := hh.free 1
      have f2 := hh.free 2
      have HX3 := Lib.hid (HNX.out.trans hn3)
      clear hn3 hh
      go_wp2
      refine bodyPost_ret (v := .tuple #[.int .i64 0, .int .i64 0, .agg #[.int .i64 la, .int .i64 lb, .int .i64 15]]) (by simp [results, Tryd.results20, go_sem, r0, r1, r2]) rfl ⟨by rw [← HG.out]; rfl, ?_⟩
      repeat (with_reducible first | exact HX3.out | refine Nx.setCell ?_ (Nat.le_refl _) _ | refine Nx.alloc ?_ _)

set_option maxHeartbeats 16000000 in
set_option maxRecDepth 100000 in
theorem rend_in5 (v : Value) (ls : List (List Tok)) (a : Nat) (l : List Tok) (w : World) (hL : Lins w v ls) (hn : ls.length ≤ 1000000) (hl : ls[a]? = some l) (hb : kindP l = 5) :
    Calls Tryd.prog 20 #[v, .int .i64 a] w fun e w' => e = .returned (endV (endR ls a)) ∧ Nx w w' := by
  obtain ⟨i0, hi, hz0, hz1, hz2⟩ := info_parts int_info
  obtain ⟨ha, hla⟩ := List.getElem?_eq_some_iff.1 hl
  have hgd : ls.getD a [] = l := by rw [List.getD_eq_getElem?_getD, hl]; rfl
  obtain ⟨la, lb, hbad⟩ := badAt_form l
  have HV := Lib.hid (show goR (badAt l) [(kindP l, -1)] (a + 1) (ls.drop (a + 1)) = endR ls a by unfold endR; rw [if_neg (by omega), show ((a : Int)).toNat = a by simp, hgd, if_pos (by rw [hb]; rfl)])
  generalize endR ls a = V at *
  obtain ⟨g, o, c, u, rfl, hc1, hcell, hT⟩ := line_at hL a l hl
  have C1 := Lib.hid (fun w2 (hn : Nx w w2) => kindR_any u l w2 (hT.nx hn))
  have CF := Lib.hid (fun w2 (hn : Nx w w2) => at_v u l la lb 15 w2 (hT.nx hn) hbad)
  have HL := Lib.hid hL
  have HC := Lib.hid hcell
  have HBD := Lib.hid hbad
  have zg0 := block_lt hcell
  have HI := Lib.hid (And.intro hi (And.intro hz0 (And.intro hz1 hz2)))
  rw [hb] at HV C1
  clear hL hla hgd hb hl hT hi hz0 hz1 hz2 hbad
  go_enter Tryd.func20, Tryd.ntmps20
  go_wp2_with fail
  refine (C1.out _ ((Nx.refl w).alloc _)).mono ?_
  rintro e w1 ⟨rfl, hn1⟩
  have HN1 := Lib.hid (((Nx.refl w).alloc _).trans hn1)
  have h0 := Lib.hid ((Has.new w ro0).nx hn1)
  have hz1 : w.heap.size + 1 ≤ w1.heap.size := by have := hn1.size; simp at this; omega
  clear hn1 hcell
  go_wp2
  go_loopw [8, 9, 10] (fun ov ev nv wr => EndRelR (badAt l) ls w wr V ov ev nv) (fun _ _ nv _ => ls.length - (intOf nv).toNat)
  case atStart => exact ⟨a + 1, [(_, -1)], by omega, by simp, by simp, by simp, (OwnC.new w1 _ _ 1 _ 1 hz1 (by unfold maxLen; omega) rfl).alloc _, own_new2 w1 _ _ _ 1 #[.int .i64 (-1)] 1 (by omega) (by unfold maxLen; omega) rfl, (fun x hx hy => by simp [Value.ownBlock] at hx hy; omega), (h0.out.alloc _).alloc _, (HN1.out.alloc _).alloc _, HV.out⟩
  case round =>
    obtain ⟨k, st, hk1, rfl, hst, hsk, ho1, ho2, hdis, hh0, hnx, hgo⟩ := hrel
    have HNX := Lib.hid hnx
    have cat := HNX.out.cell HC.out
    have zat := block_lt cat
    by_cases hlt : k < ls.length
    · obtain ⟨lk, hlk⟩ : ∃ x, ls[k]? = some x := ⟨_, List.getElem?_eq_getElem hlt⟩
      obtain ⟨g', o', c', u2, he, _, hc2, hT2⟩ := line_at (HL.out.nx HNX.out) k lk hlk
      cases he
      have hd : ls.drop k = lk :: ls.drop (k + 1) := by
        obtain ⟨h1, e1⟩ := List.getElem?_eq_some_iff.1 hlk
        rw [List.drop_eq_getElem_cons h1, e1]
      rw [hd] at hgo
      obtain ⟨ka, kb, hbk⟩ := badAt_form lk
      have HBK := Lib.hid hbk
      have C3 := Lib.hid (kindR_any u2 lk wr hT2)
      obtain ⟨⟨tk, el⟩, rest, rfl⟩ : ∃ x r, st = x :: r := by cases st with | nil => exact absurd rfl hst | cons x r => exact ⟨x, r, rfl⟩
      rw [List.length_cons] at ho1 ho2 hsk
      obtain ⟨g1, cap1, rfl, hg1, hg1c, hg1m⟩ := ho1.some (by omega)
      obtain ⟨g2, cap2, rfl, hg2, hg2c, hg2m⟩ := ho2.some (by omega)
      have hne : g1 ≠ g2 := fun e => hdis g1 rfl (by rw [e]; rfl)
      rw [goR] at hgo
      have hq7 := kindP_le lk
      go_wp2_with fail
      refine C3.out.mono ?_
      rintro e w2 ⟨rfl, hn2⟩
      have CE := Lib.hid (fun w3 (hn : Nx w2 w3) => at_v u2 lk ka kb 15 w3 ((hT2.nx hn2).nx hn) hbk)
      have hc3 := hn2.cell hc2
      have zc3 := block_lt hc3
      have ho1' := ho1.nx hn2
      have ho2' := ho2.nx hn2
      have x1 := ho1'.cells rfl _ _ (kC_top tk el rest).1
      have x2 := ho2'.cells rfl _ _ (eC_top tk el rest).1
      have f2 := ho2'.free (g := g2) rfl rest.length
      have z1 := block_lt x1
      have z2 := block_lt x2
      have HO1 := Lib.hid ho1'
      have HO2 := Lib.hid ho2'
      have HH := Lib.hid (hh0.nx hn2)
      have HX2 := Lib.hid (HNX.out.trans hn2)
      have HNE := Lib.hid hne
      have hm : rest.length ≤ 1000000 := by omega
      have hm0 : 0 ≤ (rest.length : Int) := by omega
      have hmI : (rest.length : Int) < (rest.length : Int) + 1 := by omega
      generalize hkq : kindP lk = q at *
      have HKQ := Lib.hid hkq
      clear hnx ho1 ho2 ho1' ho2' hst hd hlk hT2 hn2 hdis hh0 hbk hkq hc2 cat zat hne
      rcases (by omega : q = 0 ∨ q = 1 ∨ q = 2 ∨ q = 3 ∨ q = 4 ∨ q = 5 ∨ q = 6 ∨ q = 7) with rfl | rfl | rfl | rfl | rfl | rfl | rfl | rfl
      · rw [if_neg (show ¬ begB 0 = true by decide), if_pos rfl] at hgo
        have HG := Lib.hid hgo
        clear hgo
        go_wp2
        go_roundw
        case rel => exact ⟨k + 1, (tk, el) :: rest, by omega, by go_num, by simp, by simp; omega, HO1.out, HO2.out, (fun x hx hy => HNE.out (by simp [Value.ownBlock] at hx hy; omega)), HH.out, HX2.out, HG.out⟩
        case measure => simp [intOf]; omega
      · rw [if_pos (show begB 1 = true by decide)] at hgo
        have HG := Lib.hid hgo
        clear hgo
        have zb : w.heap.size + 1 ≤ w2.heap.size := HH.out.lt
        have hA1 := Lib.hid (HO1.out.alloc (.cells #[.int .i64 1] 3))
        obtain ⟨hi, hz0, hz1, hz2⟩ := HI.out
        go_wp2_with (at_builtin; refine wpList_append_c _ rfl _ _ 81 rfl (w.heap.size + 1) 3 i0 (.int .i64 0) 1 8 Tryd.underlying81 hi hz0 hz1 hz2 rfl (by decide) _ _ _ rfl hA1.out (some ⟨w2.heap.size, 0, none⟩) 1 1 [.int .i64 1] rfl rfl (Or.inr ⟨_, rfl, ?c1⟩) ?c2 ?c3 ?c4 ?c5 ?_)
        case c1 =>
          intro j x hj
          have hj2 : j = 0 := by have := (List.getElem?_eq_some_iff.1 hj).1; simp at this; omega
          subst hj2
          cases hj
          simp [Addr.add]
        case c2 => simp [Value.oneCell']
        case c3 => unfold maxLen; omega
        case c4 => omega
        case c5 => simp; omega
        intro v3 w3 hown3 hgr3 hbl3
        have hbl4 : v3.ownBlock = some g1 ∨ v3.ownBlock = some (w2.heap.size + 1) := by simpa [Value.ownBlock] using hbl3
        have hx3 : Nx w w3 := Below.grown (HX2.out.alloc _) hgr3 (by simp; omega) (fun x hx => by simp [Value.ownBlock] at hx; omega)
        have ho4 := ownC_grown (HO2.out.alloc (.cells #[.int .i64 1] 3)) hgr3 (fun x hx hy => HNE.out (by simp [Value.ownBlock] at hx hy; omega))
        have hh3 := (HH.out.alloc (.cells #[.int .i64 1] 3)).grown hgr3 (by simp [Value.ownBlock]; omega)
        have hz3 : w2.heap.size + 1 ≤ w3.heap.size := by have := hgr3.size; simp at this; omega
        have HO3 := Lib.hid hown3
        have HO4 := Lib.hid ho4
        have HH3 := Lib.hid hh3
        have HX3 := Lib.hid hx3
        have HBL := Lib.hid hbl4
        have hA2 := Lib.hid (ho4.alloc (.cells #[.int .i64 (-1)] 3))
        clear hown3 hgr3 hbl3 hbl4 hx3 ho4 hh3 hA1
        go_wp2_with (at_builtin; refine wpList_append_c _ rfl _ _ 81 rfl (w.heap.size + 1) 3 i0 (.int .i64 0) 1 8 Tryd.underlying81 hi hz0 hz1 hz2 rfl (by decide) _ _ _ rfl hA2.out (some ⟨w3.heap.size, 0, none⟩) 1 1 [.int .i64 (-1)] rfl rfl (Or.inr ⟨_, rfl, ?d1⟩) ?d2 ?d3 ?d4 ?d5 ?_)
        case d1 =>
          intro j x hj
          have hj2 : j = 0 := by have := (List.getElem?_eq_some_iff.1 hj).1; simp at this; omega
          subst hj2
          cases hj
          simp [Addr.add]
        case d2 => simp [Value.oneCell']
        case d3 => unfold maxLen; omega
        case d4 => omega
        case d5 => simp; omega
        intro v4 w4 hown4 hgr4 hbl5
        have hbl6 : v4.ownBlock = some g2 ∨ v4.ownBlock = some (w3.heap.size + 1) := by simpa [Value.ownBlock] using hbl5
        have HL3 := HO3.out.lt
        have hx4 := Lib.hid (show Nx w w4 from Below.grown (HX3.out.alloc _) hgr4 (by simp; omega) (fun x hx => by simp [Value.ownBlock] at hx; omega))
        have ho5 := Lib.hid (ownC_grown (HO3.out.alloc (.cells #[.int .i64 (-1)] 3)) hgr4 (fun x hx hy => by
          simp [Value.ownBlock] at hy
          rcases HBL.out with h | h <;> (rw [h] at hx; simp at hx; have := HNE.out; omega)))
        have hh4 := Lib.hid ((HH3.out.alloc (.cells #[.int .i64 (-1)] 3)).grown hgr4 (by simp [Value.ownBlock]; omega))
        have HO6 := Lib.hid hown4
        have hdis := Lib.hid (fun x (hx : v3.ownBlock = some x) (hy : v4.ownBlock = some x) => (show False by
          have h3 := HL3 x hx
          rcases hbl6 with h | h <;> (rw [h] at hy; simp at hy)
          · rcases HBL.out with h' | h' <;> (rw [h'] at hx; simp at hx; have := HNE.out; omega)
          · omega))
        clear hown4 hgr4 hbl5 hbl6 hA2 HL3
        go_wp2
        go_roundw
        case rel => exact ⟨k + 1, (1, -1) :: (tk, el) :: rest, by omega, by go_num, by simp, by simp; omega, by rw [kC_cons]; exact ho5.out, by rw [eC_cons]; exact HO6.out, hdis.out, hh4.out, hx4.out, HG.out⟩
        case measure => simp [intOf]; omega
      · rw [if_neg (show ¬ begB 2 = true by decide), if_neg (show ¬ (2 : Nat) = 0 by decide)] at hgo
        rw [if_neg (show ¬ (2 : Nat) = 6 by decide)] at hgo
        by_cases htk : tk = 1
        · subst htk
          have tq : (((1 : Nat) : Int) != 1) = false := by decide
          rw [if_neg (by simp)] at hgo
          by_cases hre : rest = []
          · rw [if_pos hre] at hgo
            have HG := Lib.hid hgo
            clear hgo
            subst hre
            simp only [List.length_nil] at x1 x2 f2 hg1c hg2c
            have hh := HH.out
            unfold ro0 at hh
            have r0 := hh.cell 0 _ rfl
            have r1 := hh.cell 1 _ rfl
            have r2 := hh.cell 2 _ rfl
            have f0 := hh.free 0
            have f1 := hh.free 1
            have f2' := hh.free 2
            have zr := hh.lt
            clear hh
            go_wp2
            go_region
            all_goals go_wp2
            all_goals
              refine bodyPost_ret (v := .tuple #[.int .i64 k, .int .i64 el, .agg #[.int .i64 0, .int .i64 0, .int .i64 0]]) (by simp [results, Tryd.results20, go_sem, r0, r1, r2, f0, f1, f2']) rfl ⟨by rw [← HG.out]; rfl, ?_⟩
              repeat (with_reducible first | exact HX2.out | refine Nx.drew ?_ | refine Nx.setCell ?_ (Nat.le_refl _) _ | refine Nx.alloc ?_ _)
          · have HR := Lib.hid (show 0 < rest.length by cases rest with | nil => exact absurd rfl hre | cons _ _ => simp)
            rw [if_neg hre] at hgo
            have HG := Lib.hid hgo
            clear hgo
            obtain ⟨m, hmm⟩ : ∃ m, m = rest.length := ⟨_, rfl⟩
            have hm1 : 0 < m := by rw [hmm]; exact HR.out
            have HM := Lib.hid hmm
            rw [← hmm] at x1 x2 f2 hg1c hg2c hm hm0 hmI hsk HO1 HO2 ⊢
            clear hmm
            have hz1 : ((m : Int) + 1 == 1) = false := by simp; omega
            have zb : w.heap.size + 1 ≤ w2.heap.size := HH.out.lt
            obtain ⟨hi, hz0, hz1', hz2⟩ := HI.out
            have hA1 := Lib.hid (OwnC.made w2 (w.heap.size + 1) 3 1 #[] 0 zb (by unfold maxLen; omega) (by simp))
            have hs1 := Lib.hid (fun (j : Nat) (x : Value) (hj : (kC rest)[j]? = some x) => (show (w2.alloc (.cells #[] 3)).cell? ((⟨g1, 0, none⟩ : Addr).add j) = some x by
              rw [show (⟨g1, 0, none⟩ : Addr).add j = ⟨g1, j, none⟩ by unfold Addr.add; split <;> simp_all]
              refine (HO1.out.alloc _).cells rfl j x ?_
              have := (kC_top 1 el rest).2
              rw [← this] at hj
              exact take_some _ _ _ _ hj))
            go_wp2_with (at_builtin; refine wpList_append_c _ rfl _ _ 81 rfl (w.heap.size + 1) 3 i0 (.int .i64 0) 1 8 Tryd.underlying81 hi hz0 hz1' hz2 rfl (by decide) _ _ _ rfl hA1.out (some ⟨g1, 0, none⟩) m cap1 (kC rest) rfl ?c0 (Or.inr ⟨_, rfl, hs1.out⟩) ?c2 ?c3 ?c4 ?c5 ?_)
            case c0 => rw [kC_len, HM.out]; omega
            case c2 => exact kC_one rest
            case c3 => unfold maxLen; omega
            case c4 => omega
            case c5 => simp; omega
            intro v3 w3 hown3 hgr3 hbl3
            have hbl4 : v3.ownBlock = some w2.heap.size ∨ v3.ownBlock = some (w2.heap.size + 1) := by simpa [Value.ownBlock] using hbl3
            have hx3 : Nx w w3 := Below.grown (HX2.out.alloc _) hgr3 (by simp; omega) (fun x hx => by simp [Value.ownBlock] at hx; omega)
            have ho4 := ownC_grown (HO2.out.alloc (.cells #[] 3)) hgr3 (fun x hx hy => by simp [Value.ownBlock] at hx hy; omega)
            have hh3 := (HH.out.alloc (.cells #[] 3)).grown hgr3 (by simp [Value.ownBlock]; omega)
            have hz3 : w2.heap.size + 1 ≤ w3.heap.size := by have := hgr3.size; simp at this; omega
            have hown3 : OwnC w3 (w.heap.size + 1) 3 1 v3 m (kC rest) := by simpa using hown3
            have HO3 := Lib.hid hown3
            have HO4 := Lib.hid ho4
            have HH3 := Lib.hid hh3
            have HX3 := Lib.hid hx3
            have HBL := Lib.hid hbl4
            have hA2 := Lib.hid (OwnC.made w3 (w.heap.size + 1) 3 1 #[] 0 (by omega) (by unfold maxLen; omega) (by simp))
            have hs2 := Lib.hid (fun (j : Nat) (x : Value) (hj : (eC rest)[j]? = some x) => (show (w3.alloc (.cells #[] 3)).cell? ((⟨g2, 0, none⟩ : Addr).add j) = some x by
              rw [show (⟨g2, 0, none⟩ : Addr).add j = ⟨g2, j, none⟩ by unfold Addr.add; split <;> simp_all]
              refine (HO4.out.alloc _).cells rfl j x ?_
              have := (eC_top 1 el rest).2.1
              rw [← this] at hj
              exact take_some _ _ _ _ hj))
            clear hown3 hgr3 hbl3 hbl4 hx3 ho4 hh3 hA1 hs1
            go_wp2_with (at_builtin; refine wpList_append_c _ rfl _ _ 81 rfl (w.heap.size + 1) 3 i0 (.int .i64 0) 1 8 Tryd.underlying81 hi hz0 hz1' hz2 rfl (by decide) _ _ _ rfl hA2.out (some ⟨g2, 0, none⟩) m cap2 (eC rest) rfl ?d0 (Or.inr ⟨_, rfl, hs2.out⟩) ?d2 ?d3 ?d4 ?d5 ?_)
            case d0 => rw [eC_len, HM.out]; omega
            case d2 => exact eC_one rest
            case d3 => unfold maxLen; omega
            case d4 => omega
            case d5 => simp; omega
            intro v4 w4 hown4 hgr4 hbl5
            have hbl6 : v4.ownBlock = some w3.heap.size ∨ v4.ownBlock = some (w3.heap.size + 1) := by simpa [Value.ownBlock] using hbl5
            have HL3 := HO3.out.lt
            have hx4 := Lib.hid (show Nx w w4 from Below.grown (HX3.out.alloc _) hgr4 (by simp; omega) (fun x hx => by simp [Value.ownBlock] at hx; omega))
            have ho5 := Lib.hid (ownC_grown (HO3.out.alloc (.cells #[] 3)) hgr4 (fun x hx hy => by
              simp [Value.ownBlock] at hy
              have := HL3 x hx
              omega))
            have hh4 := Lib.hid ((HH3.out.alloc (.cells #[] 3)).grown hgr4 (by simp [Value.ownBlock]; omega))
            have hown4 : OwnC w4 (w.heap.size + 1) 3 1 v4 m (eC rest) := by simpa using hown4
            have HO6 := Lib.hid hown4
            have hdis := Lib.hid (fun x (hx : v3.ownBlock = some x) (hy : v4.ownBlock = some x) => (show False by
              have h3 := HL3 x hx
              rcases hbl6 with h | h <;> (rw [h] at hy; simp at hy; omega)))
            clear hown4 hgr4 hbl5 hbl6 hA2 HL3 hs2
            go_wp2
            go_roundw
            case rel => exact ⟨k + 1, rest, by omega, by go_num, hre, by rw [← HM.out]; omega, by rw [← HM.out]; exact ho5.out, by rw [← HM.out]; exact HO6.out, hdis.out, hh4.out, hx4.out, HG.out⟩
            case measure => simp [intOf]; omega
        · have tq : ((tk : Int) != 1) = true := by simp; omega
          rw [if_pos (by simp [htk])] at hgo
          clear htk
          have hgo2 := hgo
          rw [HBK.out] at hgo2
          have HG := Lib.hid hgo2
          clear hgo hgo2
          go_wp2_with fail
          refine (CE.out _ (Nx.refl _)).mono ?_
          rintro e w3 ⟨rfl, hn3⟩
          have hh := HH.out.nx hn3
          unfold ro0 at hh
          have r0 := hh.cell 0 _ rfl
          have r1 := hh.cell 1 _ rfl
          have r2 := hh.cell 2 _ rfl
          have f0 := hh.free 0
          have f1 := hh.free 1
          have f2 := hh.free 2
          have HX3 := Lib.hid (HX2.out.trans hn3)
          clear hn3 hh
          go_wp2
          refine bodyPost_ret (v := .tuple #[.int .i64 0, .int .i64 0, .agg #[.int .i64 ka, .int .i64 kb, .int .i64 15]]) (by simp [results, Tryd.results20, go_sem, r0, r1, r2]) rfl ⟨by rw [← HG.out]; rfl, ?_⟩
          repeat (with_reducible first | exact HX3.out | refine Nx.setCell ?_ (Nat.le_refl _) _ | refine Nx.alloc ?_ _)
      · rw [if_pos (show begB 3 = true by decide)] at hgo
        have HG := Lib.hid hgo
        clear hgo
        have zb : w.heap.size + 1 ≤ w2.heap.size := HH.out.lt
        have hA1 := Lib.hid (HO1.out.alloc (.cells #[.int .i64 3] 3))
        obtain ⟨hi, hz0, hz1, hz2⟩ := HI.out
        go_wp2_with (at_builtin; refine wpList_append_c _ rfl _ _ 81 rfl (w.heap.size + 1) 3 i0 (.int .i64 0) 1 8 Tryd.underlying81 hi hz0 hz1 hz2 rfl (by decide) _ _ _ rfl hA1.out (some ⟨w2.heap.size, 0, none⟩) 1 1 [.int .i64 3] rfl rfl (Or.inr ⟨_, rfl, ?c1⟩) ?c2 ?c3 ?c4 ?c5 ?_)
        case c1 =>
          intro j x hj
          have hj2 : j = 0 := by have := (List.getElem?_eq_some_iff.1 hj).1; simp at this; omega
          subst hj2
          cases hj
          simp [Addr.add]
        case c2 => simp [Value.oneCell']
        case c3 => unfold maxLen; omega
        case c4 => omega
        case c5 => simp; omega
        intro v3 w3 hown3 hgr3 hbl3
        have hbl4 : v3.ownBlock = some g1 ∨ v3.ownBlock = some (w2.heap.size + 1) := by simpa [Value.ownBlock] using hbl3
        have hx3 : Nx w w3 := Below.grown (HX2.out.alloc _) hgr3 (by simp; omega) (fun x hx => by simp [Value.ownBlock] at hx; omega)
        have ho4 := ownC_grown (HO2.out.alloc (.cells #[.int .i64 3] 3)) hgr3 (fun x hx hy => HNE.out (by simp [Value.ownBlock] at hx hy; omega))
        have hh3 := (HH.out.alloc (.cells #[.int .i64 3] 3)).grown hgr3 (by simp [Value.ownBlock]; omega)
        have hz3 : w2.heap.size + 1 ≤ w3.heap.size := by have := hgr3.size; simp at this; omega
        have HO3 := Lib.hid hown3
        have HO4 := Lib.hid ho4
        have HH3 := Lib.hid hh3
        have HX3 := Lib.hid hx3
        have HBL := Lib.hid hbl4
        have hA2 := Lib.hid (ho4.alloc (.cells #[.int .i64 (-1)] 3))
        clear hown3 hgr3 hbl3 hbl4 hx3 ho4 hh3 hA1
        go_wp2_with (at_builtin; refine wpList_append_c _ rfl _ _ 81 rfl (w.heap.size + 1) 3 i0 (.int .i64 0) 1 8 Tryd.underlying81 hi hz0 hz1 hz2 rfl (by decide) _ _ _ rfl hA2.out (some ⟨w3.heap.size, 0, none⟩) 1 1 [.int .i64 (-1)] rfl rfl (Or.inr ⟨_, rfl, ?d1⟩) ?d2 ?d3 ?d4 ?d5 ?_)
        case d1 =>
          intro j x hj
          have hj2 : j = 0 := by have := (List.getElem?_eq_some_iff.1 hj).1; simp at this; omega
          subst hj2
          cases hj
          simp [Addr.add]
        case d2 => simp [Value.oneCell']
        case d3 => unfold maxLen; omega
        case d4 => omega
        case d5 => simp; omega
        intro v4 w4 hown4 hgr4 hbl5
        have hbl6 : v4.ownBlock = some g2 ∨ v4.ownBlock = some (w3.heap.size + 1) := by simpa [Value.ownBlock] using hbl5
        have HL3 := HO3.out.lt
        have hx4 := Lib.hid (show Nx w w4 from Below.grown (HX3.out.alloc _) hgr4 (by simp; omega) (fun x hx => by simp [Value.ownBlock] at hx; omega))
        have ho5 := Lib.hid (ownC_grown (HO3.out.alloc (.cells #[.int .i64 (-1)] 3)) hgr4 (fun x hx hy => by
          simp [Value.ownBlock] at hy
          rcases HBL.out with h | h <;> (rw [h] at hx; simp at hx; have := HNE.out; omega)))
        have hh4 := Lib.hid ((HH3.out.alloc (.cells #[.int .i64 (-1)] 3)).grown hgr4 (by simp [Value.ownBlock]; omega))
        have HO6 := Lib.hid hown4
        have hdis := Lib.hid (fun x (hx : v3.ownBlock = some x) (hy : v4.ownBlock = some x) => (show False by
          have h3 := HL3 x hx
          rcases hbl6 with h | h <;> (rw [h] at hy; simp at hy)
          · rcases HBL.out with h' | h' <;> (rw [h'] at hx; simp at hx; have := HNE.out; omega)
          · omega))
        clear hown4 hgr4 hbl5 hbl6 hA2 HL3
        go_wp2
        go_roundw
        case rel => exact ⟨k + 1, (3, -1) :: (tk, el) :: rest, by omega, by go_num, by simp, by simp; omega, by rw [kC_cons]; exact ho5.out, by rw [eC_cons]; exact HO6.out, hdis.out, hh4.out, hx4.out, HG.out⟩
        case measure => simp [intOf]; omega
      · rw [if_neg (show ¬ begB 4 = true by decide), if_neg (show ¬ (4 : Nat) = 0 by decide)] at hgo
        rw [if_neg (show ¬ (4 : Nat) = 6 by decide)] at hgo
        by_cases htk : tk = 3
        · subst htk
          have tq : (((3 : Nat) : Int) != 3) = false := by decide
          rw [if_neg (by simp)] at hgo
          by_cases hre : rest = []
          · rw [if_pos hre] at hgo
            have HG := Lib.hid hgo
            clear hgo
            subst hre
            simp only [List.length_nil] at x1 x2 f2 hg1c hg2c
            have hh := HH.out
            unfold ro0 at hh
            have r0 := hh.cell 0 _ rfl
            have r1 := hh.cell 1 _ rfl
            have r2 := hh.cell 2 _ rfl
            have f0 := hh.free 0
            have f1 := hh.free 1
            have f2' := hh.free 2
            have zr := hh.lt
            clear hh
            go_wp2
            go_region
            all_goals go_wp2
            all_goals
              refine bodyPost_ret (v := .tuple #[.int .i64 k, .int .i64 el, .agg #[.int .i64 0, .int .i64 0, .int .i64 0]]) (by simp [results, Tryd.results20, go_sem, r0, r1, r2, f0, f1, f2']) rfl ⟨by rw [← HG.out]; rfl, ?_⟩
              repeat (with_reducible first | exact HX2.out | refine Nx.drew ?_ | refine Nx.setCell ?_ (Nat.le_refl _) _ | refine Nx.alloc ?_ _)
          · have HR := Lib.hid (show 0 < rest.length by cases rest with | nil => exact absurd rfl hre | cons _ _ => simp)
            rw [if_neg hre] at hgo
            have HG := Lib.hid hgo
            clear hgo
            obtain ⟨m, hmm⟩ : ∃ m, m = rest.length := ⟨_, rfl⟩
            have hm1 : 0 < m := by rw [hmm]; exact HR.out
            have HM := Lib.hid hmm
            rw [← hmm] at x1 x2 f2 hg1c hg2c hm hm0 hmI hsk HO1 HO2 ⊢
            clear hmm
            have hz1 : ((m : Int) + 1 == 1) = false := by simp; omega
            have zb : w.heap.size + 1 ≤ w2.heap.size := HH.out.lt
            obtain ⟨hi, hz0, hz1', hz2⟩ := HI.out
            have hA1 := Lib.hid (OwnC.made w2 (w.heap.size + 1) 3 1 #[] 0 zb (by unfold maxLen; omega) (by simp))
            have hs1 := Lib.hid (fun (j : Nat) (x : Value) (hj : (kC rest)[j]? = some x) => (show (w2.alloc (.cells #[] 3)).cell? ((⟨g1, 0, none⟩ : Addr).add j) = some x by
              rw [show (⟨g1, 0, none⟩ : Addr).add j = ⟨g1, j, none⟩ by unfold Addr.add; split <;> simp_all]
              refine (HO1.out.alloc _).cells rfl j x ?_
              have := (kC_top 3 el rest).2
              rw [← this] at hj
              exact take_some _ _ _ _ hj))
            go_wp2_with (at_builtin; refine wpList_append_c _ rfl _ _ 81 rfl (w.heap.size + 1) 3 i0 (.int .i64 0) 1 8 Tryd.underlying81 hi hz0 hz1' hz2 rfl (by decide) _ _ _ rfl hA1.out (some ⟨g1, 0, none⟩) m cap1 (kC rest) rfl ?c0 (Or.inr ⟨_, rfl, hs1.out⟩) ?c2 ?c3 ?c4 ?c5 ?_)
            case c0 => rw [kC_len, HM.out]; omega
            case c2 => exact kC_one rest
            case c3 => unfold maxLen; omega
            case c4 => omega
            case c5 => simp; omega
            intro v3 w3 hown3 hgr3 hbl3
            have hbl4 : v3.ownBlock = some w2.heap.size ∨ v3.ownBlock = some (w2.heap.size + 1) := by simpa [Value.ownBlock] using hbl3
            have hx3 : Nx w w3 := Below.grown (HX2.out.alloc _) hgr3 (by simp; omega) (fun x hx => by simp [Value.ownBlock] at hx; omega)
            have ho4 := ownC_grown (HO2.out.alloc (.cells #[] 3)) hgr3 (fun x hx hy => by simp [Value.ownBlock] at hx hy; omega)
            have hh3 := (HH.out.alloc (.cells #[] 3)).grown hgr3 (by simp [Value.ownBlock]; omega)
            have hz3 : w2.heap.size + 1 ≤ w3.heap.size := by have := hgr3.size; simp at this; omega
            have hown3 : OwnC w3 (w.heap.size + 1) 3 1 v3 m (kC rest) := by simpa using hown3
            have HO3 := Lib.hid hown3
            have HO4 := Lib.hid ho4
            have HH3 := Lib.hid hh3
            have HX3 := Lib.hid hx3
            have HBL := Lib.hid hbl4
            have hA2 := Lib.hid (OwnC.made w3 (w.heap.size + 1) 3 1 #[] 0 (by omega) (by unfold maxLen; omega) (by simp))
            have hs2 := Lib.hid (fun (j : Nat) (x : Value) (hj : (eC rest)[j]? = some x) => (show (w3.alloc (.cells #[] 3)).cell? ((⟨g2, 0, none⟩ : Addr).add j) = some x by
              rw [show (⟨g2, 0, none⟩ : Addr).add j = ⟨g2, j, none⟩ by unfold Addr.add; split <;> simp_all]
              refine (HO4.out.alloc _).cells rfl j x ?_
              have := (eC_top 3 el rest).2.1
              rw [← this] at hj
              exact take_some _ _ _ _ hj))
            clear hown3 hgr3 hbl3 hbl4 hx3 ho4 hh3 hA1 hs1
            go_wp2_with (at_builtin; refine wpList_append_c _ rfl _ _ 81 rfl (w.heap.size + 1) 3 i0 (.int .i64 0) 1 8 Tryd.underlying81 hi hz0 hz1' hz2 rfl (by decide) _ _ _ rfl hA2.out (some ⟨g2, 0, none⟩) m cap2 (eC rest) rfl ?d0 (Or.inr ⟨_, rfl, hs2.out⟩) ?d2 ?d3 ?d4 ?d5 ?_)
            case d0 => rw [eC_len, HM.out]; omega
            case d2 => exact eC_one rest
            case d3 => unfold maxLen; omega
            case d4 => omega
            case d5 => simp; omega
            intro v4 w4 hown4 hgr4 hbl5
            have hbl6 : v4.ownBlock = some w3.heap.size ∨ v4.ownBlock = some (w3.heap.size + 1) := by simpa [Value.ownBlock] using hbl5
            have HL3 := HO3.out.lt
            have hx4 := Lib.hid (show Nx w w4 from Below.grown (HX3.out.alloc _) hgr4 (by simp; omega) (fun x hx => by simp [Value.ownBlock] at hx; omega))
            have ho5 := Lib.hid (ownC_grown (HO3.out.alloc (.cells #[] 3)) hgr4 (fun x hx hy => by
              simp [Value.ownBlock] at hy
              have := HL3 x hx
              omega))
            have hh4 := Lib.hid ((HH3.out.alloc (.cells #[] 3)).grown hgr4 (by simp [Value.ownBlock]; omega))
            have hown4 : OwnC w4 (w.heap.size + 1) 3 1 v4 m (eC rest) := by simpa using hown4
            have HO6 := Lib.hid hown4
            have hdis := Lib.hid (fun x (hx : v3.ownBlock = some x) (hy : v4.ownBlock = some x) => (show False by
              have h3 := HL3 x hx
              rcases hbl6 with h | h <;> (rw [h] at hy; simp at hy; omega)))
            clear hown4 hgr4 hbl5 hbl6 hA2 HL3 hs2
            go_wp2
            go_roundw
            case rel => exact ⟨k + 1, rest, by omega, by go_num, hre, by rw [← HM.out]; omega, by rw [← HM.out]; exact ho5.out, by rw [← HM.out]; exact HO6.out, hdis.out, hh4.out, hx4.out, HG.out⟩
            case measure => simp [intOf]; omega
        · have tq : ((tk : Int) != 3) = true := by simp; omega
          rw [if_pos (by simp [htk])] at hgo
          clear htk
          have hgo2 := hgo
          rw [HBK.out] at hgo2
          have HG := Lib.hid hgo2
          clear hgo hgo2
          go_wp2_with fail
          refine (CE.out _ (Nx.refl _)).mono ?_
          rintro e w3 ⟨rfl, hn3⟩
          have hh := HH.out.nx hn3
          unfold ro0 at hh
          have r0 := hh.cell 0 _ rfl
          have r1 := hh.cell 1 _ rfl
          have r2 := hh.cell 2 _ rfl
          have f0 := hh.free 0
          have f1 := hh.free 1
          have f2 := hh.free 2
          have HX3 := Lib.hid (HX2.out.trans hn3)
          clear hn3 hh
          go_wp2
          refine bodyPost_ret (v := .tuple #[.int .i64 0, .int .i64 0, .agg #[.int .i64 ka, .int .i64 kb, .int .i64 15]]) (by simp [results, Tryd.results20, go_sem, r0, r1, r2]) rfl ⟨by rw [← HG.out]; rfl, ?_⟩
          repeat (with_reducible first | exact HX3.out | refine Nx.setCell ?_ (Nat.le_refl _) _ | refine Nx.alloc ?_ _)
      · rw [if_pos (show begB 5 = true by decide)] at hgo
        have HG := Lib.hid hgo
        clear hgo
        have zb : w.heap.size + 1 ≤ w2.heap.size := HH.out.lt
        have hA1 := Lib.hid (HO1.out.alloc (.cells #[.int .i64 5] 3))
        obtain ⟨hi, hz0, hz1, hz2⟩ := HI.out
        go_wp2_with (at_builtin; refine wpList_append_c _ rfl _ _ 81 rfl (w.heap.size + 1) 3 i0 (.int .i64 0) 1 8 Tryd.underlying81 hi hz0 hz1 hz2 rfl (by decide) _ _ _ rfl hA1.out (some ⟨w2.heap.size, 0, none⟩) 1 1 [.int .i64 5] rfl rfl (Or.inr ⟨_, rfl, ?c1⟩) ?c2 ?c3 ?c4 ?c5 ?_)
        case c1 =>
          intro j x hj
          have hj2 : j = 0 := by have := (List.getElem?_eq_some_iff.1 hj).1; simp at this; omega
          subst hj2
          cases hj
          simp [Addr.add]
        case c2 => simp [Value.oneCell']
        case c3 => unfold maxLen; omega
        case c4 => omega
        case c5 => simp; omega
        intro v3 w3 hown3 hgr3 hbl3
        have hbl4 : v3.ownBlock = some g1 ∨ v3.ownBlock = some (w2.heap.size + 1) := by simpa [Value.ownBlock] using hbl3
        have hx3 : Nx w w3 := Below.grown (HX2.out.alloc _) hgr3 (by simp; omega) (fun x hx => by simp [Value.ownBlock] at hx; omega)
        have ho4 := ownC_grown (HO2.out.alloc (.cells #[.int .i64 5] 3)) hgr3 (fun x hx hy => HNE.out (by simp [Value.ownBlock] at hx hy; omega))
        have hh3 := (HH.out.alloc (.cells #[.int .i64 5] 3)).grown hgr3 (by simp [Value.ownBlock]; omega)
        have hz3 : w2.heap.size + 1 ≤ w3.heap.size := by have := hgr3.size; simp at this; omega
        have HO3 := Lib.hid hown3
        have HO4 := Lib.hid ho4
        have HH3 := Lib.hid hh3
        have HX3 := Lib.hid hx3
        have HBL := Lib.hid hbl4
        have hA2 := Lib.hid (ho4.alloc (.cells #[.int .i64 (-1)] 3))
        clear hown3 hgr3 hbl3 hbl4 hx3 ho4 hh3 hA1
        go_wp2_with (at_builtin; refine wpList_append_c _ rfl _ _ 81 rfl (w.heap.size + 1) 3 i0 (.int .i64 0) 1 8 Tryd.underlying81 hi hz0 hz1 hz2 rfl (by decide) _ _ _ rfl hA2.out (some ⟨w3.heap.size, 0, none⟩) 1 1 [.int .i64 (-1)] rfl rfl (Or.inr ⟨_, rfl, ?d1⟩) ?d2 ?d3 ?d4 ?d5 ?_)
        case d1 =>
          intro j x hj
          have hj2 : j = 0 := by have := (List.getElem?_eq_some_iff.1 hj).1; simp at this; omega
          subst hj2
          cases hj
          simp [Addr.add]
        case d2 => simp [Value.oneCell']
        case d3 => unfold maxLen; omega
        case d4 => omega
        case d5 => simp; omega
        intro v4 w4 hown4 hgr4 hbl5
        have hbl6 : v4.ownBlock = some g2 ∨ v4.ownBlock = some (w3.heap.size + 1) := by simpa [Value.ownBlock] using hbl5
        have HL3 := HO3.out.lt
        have hx4 := Lib.hid (show Nx w w4 from Below.grown (HX3.out.alloc _) hgr4 (by simp; omega) (fun x hx => by simp [Value.ownBlock] at hx; omega))
        have ho5 := Lib.hid (ownC_grown (HO3.out.alloc (.cells #[.int .i64 (-1)] 3)) hgr4 (fun x hx hy => by
          simp [Value.ownBlock] at hy
          rcases HBL.out with h | h <;> (rw [h] at hx; simp at hx; have := HNE.out; omega)))
        have hh4 := Lib.hid ((HH3.out.alloc (.cells #[.int .i64 (-1)] 3)).grown hgr4 (by simp [Value.ownBlock]; omega))
        have HO6 := Lib.hid hown4
        have hdis := Lib.hid (fun x (hx : v3.ownBlock = some x) (hy : v4.ownBlock = some x) => (show False by
          have h3 := HL3 x hx
          rcases hbl6 with h | h <;> (rw [h] at hy; simp at hy)
          · rcases HBL.out with h' | h' <;> (rw [h'] at hx; simp at hx; have := HNE.out; omega)
          · omega))
        clear hown4 hgr4 hbl5 hbl6 hA2 HL3
        go_wp2
        go_roundw
        case rel => exact ⟨k + 1, (5, -1) :: (tk, el) :: rest, by omega, by go_num, by simp, by simp; omega, by rw [kC_cons]; exact ho5.out, by rw [eC_cons]; exact HO6.out, hdis.out, hh4.out, hx4.out, HG.out⟩
        case measure => simp [intOf]; omega
      · rw [if_neg (show ¬ begB 6 = true by decide), if_neg (show ¬ (6 : Nat) = 0 by decide)] at hgo
        rw [if_pos rfl] at hgo
        by_cases htk : tk = 5
        · subst htk
          have tq : (((5 : Nat) : Int) != 5) = false := by decide
          by_cases hel : 0 ≤ el
          · rw [if_pos (Or.inr hel)] at hgo
            have hgo2 := hgo
            rw [HBK.out] at hgo2
            have HG := Lib.hid hgo2
            clear hgo hgo2
            go_wp2_with fail
            refine (CE.out _ (Nx.refl _)).mono ?_
            rintro e w3 ⟨rfl, hn3⟩
            have hh := HH.out.nx hn3
            unfold ro0 at hh
            have r0 := hh.cell 0 _ rfl
            have r1 := hh.cell 1 _ rfl
            have r2 := hh.cell 2 _ rfl
            have f0 := hh.free 0
            have f1 := hh.free 1
            have f2 := hh.free 2
            have HX3 := Lib.hid (HX2.out.trans hn3)
            clear hn3 hh
            go_wp2
            refine bodyPost_ret (v := .tuple #[.int .i64 0, .int .i64 0, .agg #[.int .i64 ka, .int .i64 kb, .int .i64 15]]) (by simp [results, Tryd.results20, go_sem, r0, r1, r2]) rfl ⟨by rw [← HG.out]; rfl, ?_⟩
            repeat (with_reducible first | exact HX3.out | refine Nx.setCell ?_ (Nat.le_refl _) _ | refine Nx.alloc ?_ _)
          · rw [if_neg (by intro h; rcases h with h | h; exact h rfl; exact hel h)] at hgo
            have HG := Lib.hid hgo
            clear hgo
            have hS := HO2.out.store rest.length (.int .i64 k) (by omega)
            rw [(eC_top 5 el rest).2.2] at hS
            have HS := Lib.hid hS
            have h7 := Lib.hid (ownC_grown (w' := w2.setCell ⟨g2, rest.length, none⟩ (.int .i64 k)) (row := some g2) HO1.out (setCell_grown w2 _ _) (fun x hx hy => HNE.out (by simp [Value.ownBlock] at hx hy; omega)))
            have h8 := Lib.hid (HH.out.far (p := ⟨g2, rest.length, none⟩) (by show _ ≠ g2; omega) (.int .i64 k))
            have zb : w.heap.size ≤ g2 := by omega
            clear hS
            go_wp2
            go_roundw
            case rel => exact ⟨k + 1, (5, k) :: rest, by omega, by go_num, by simp, by simp; omega, by rw [kC_cons]; have h9 := h7.out; rw [kC_cons] at h9; exact h9, HS.out, (fun x hx hy => HNE.out (by simp [Value.ownBlock] at hx hy; omega)), h8.out, HX2.out.setCell zb _, HG.out⟩
            case measure => simp [intOf]; omega
        · have tq : ((tk : Int) != 5) = true := by simp; omega
          rw [if_pos (Or.inl htk)] at hgo
          clear htk
          have hgo2 := hgo
          rw [HBK.out] at hgo2
          have HG := Lib.hid hgo2
          clear hgo hgo2
          go_wp2_with fail
          refine (CE.out _ (Nx.refl _)).mono ?_
          rintro e w3 ⟨rfl, hn3⟩
          have hh := HH.out.nx hn3
          unfold ro0 at hh
          have r0 := hh.cell 0 _ rfl
          have r1 := hh.cell 1 _ rfl
          have r2 := hh.cell 2 _ rfl
          have f0 := hh.free 0
          have f1 := hh.free 1
          have f2 := hh.free 2
          have HX3 := Lib.hid (HX2.out.trans hn3)
          clear hn3 hh
          go_wp2
          refine bodyPost_ret (v := .tuple #[.int .i64 0, .int .i64 0, .agg #[.int .i64 ka, .int .i64 kb, .int .i64 15]]) (by simp [results, Tryd.results20, go_sem, r0, r1, r2]) rfl ⟨by rw [← HG.out]; rfl, ?_⟩
          repeat (with_reducible first | exact HX3.out | refine Nx.setCell ?_ (Nat.le_refl _) _ | refine Nx.alloc ?_ _)
      · rw [if_neg (show ¬ begB 7 = true by decide), if_neg (show ¬ (7 : Nat) = 0 by decide)] at hgo
        rw [if_neg (show ¬ (7 : Nat) = 6 by decide)] at hgo
        by_cases htk : tk = 5
        · subst htk
          have tq : (((5 : Nat) : Int) != 5) = false := by decide
          rw [if_neg (by simp)] at hgo
          by_cases hre : rest = []
          · rw [if_pos hre] at hgo
            have HG := Lib.hid hgo
            clear hgo
            subst hre
            simp only [List.length_nil] at x1 x2 f2 hg1c hg2c
            have hh := HH.out
            unfold ro0 at hh
            have r0 := hh.cell 0 _ rfl
            have r1 := hh.cell 1 _ rfl
            have r2 := hh.cell 2 _ rfl
            have f0 := hh.free 0
            have f1 := hh.free 1
            have f2' := hh.free 2
            have zr := hh.lt
            clear hh
            go_wp2
            go_region
            all_goals go_wp2
            all_goals
              refine bodyPost_ret (v := .tuple #[.int .i64 k, .int .i64 el, .agg #[.int .i64 0, .int .i64 0, .int .i64 0]]) (by simp [results, Tryd.results20, go_sem, r0, r1, r2, f0, f1, f2']) rfl ⟨by rw [← HG.out]; rfl, ?_⟩
              repeat (with_reducible first | exact HX2.out | refine Nx.drew ?_ | refine Nx.setCell ?_ (Nat.le_refl _) _ | refine Nx.alloc ?_ _)
          · have HR := Lib.hid (show 0 < rest.length by cases rest with | nil => exact absurd rfl hre | cons _ _ => simp)
            rw [if_neg hre] at hgo
            have HG := Lib.hid hgo
            clear hgo
            obtain ⟨m, hmm⟩ : ∃ m, m = rest.length := ⟨_, rfl⟩
            have hm1 : 0 < m := by rw [hmm]; exact HR.out
            have HM := Lib.hid hmm
            rw [← hmm] at x1 x2 f2 hg1c hg2c hm hm0 hmI hsk HO1 HO2 ⊢
            clear hmm
            have hz1 : ((m : Int) + 1 == 1) = false := by simp; omega
            have zb : w.heap.size + 1 ≤ w2.heap.size := HH.out.lt
            obtain ⟨hi, hz0, hz1', hz2⟩ := HI.out
            have hA1 := Lib.hid (OwnC.made w2 (w.heap.size + 1) 3 1 #[] 0 zb (by unfold maxLen; omega) (by simp))
            have hs1 := Lib.hid (fun (j : Nat) (x : Value) (hj : (kC rest)[j]? = some x) => (show (w2.alloc (.cells #[] 3)).cell? ((⟨g1, 0, none⟩ : Addr).add j) = some x by
              rw [show (⟨g1, 0, none⟩ : Addr).add j = ⟨g1, j, none⟩ by unfold Addr.add; split <;> simp_all]
              refine (HO1.out.alloc _).cells rfl j x ?_
              have := (kC_top 5 el rest).2
              rw [← this] at hj
              exact take_some _ _ _ _ hj))
            go_wp2_with (at_builtin; refine wpList_append_c _ rfl _ _ 81 rfl (w.heap.size + 1) 3 i0 (.int .i64 0) 1 8 Tryd.underlying81 hi hz0 hz1' hz2 rfl (by decide) _ _ _ rfl hA1.out (some ⟨g1, 0, none⟩) m cap1 (kC rest) rfl ?c0 (Or.inr ⟨_, rfl, hs1.out⟩) ?c2 ?c3 ?c4 ?c5 ?_)
            case c0 => rw [kC_len, HM.out]; omega
            case c2 => exact kC_one rest
            case c3 => unfold maxLen; omega
            case c4 => omega
            case c5 => simp; omega
            intro v3 w3 hown3 hgr3 hbl3
            have hbl4 : v3.ownBlock = some w2.heap.size ∨ v3.ownBlock = some (w2.heap.size + 1) := by simpa [Value.ownBlock] using hbl3
            have hx3 : Nx w w3 := Below.grown (HX2.out.alloc _) hgr3 (by simp; omega) (fun x hx => by simp [Value.ownBlock] at hx; omega)
            have ho4 := ownC_grown (HO2.out.alloc (.cells #[] 3)) hgr3 (fun x hx hy => by simp [Value.ownBlock] at hx hy; omega)
            have hh3 := (HH.out.alloc (.cells #[] 3)).grown hgr3 (by simp [Value.ownBlock]; omega)
            have hz3 : w2.heap.size + 1 ≤ w3.heap.size := by have := hgr3.size; simp at this; omega
            have hown3 : OwnC w3 (w.heap.size + 1) 3 1 v3 m (kC rest) := by simpa using hown3
            have HO3 := Lib.hid hown3
            have HO4 := Lib.hid ho4
            have HH3 := Lib.hid hh3
            have HX3 := Lib.hid hx3
            have HBL := Lib.hid hbl4
            have hA2 := Lib.hid (OwnC.made w3 (w.heap.size + 1) 3 1 #[] 0 (by omega) (by unfold maxLen; omega) (by simp))
            have hs2 := Lib.hid (fun (j : Nat) (x : Value) (hj : (eC rest)[j]? = some x) => (show (w3.alloc (.cells #[] 3)).cell? ((⟨g2, 0, none⟩ : Addr).add j) = some x by
              rw [show (⟨g2, 0, none⟩ : Addr).add j = ⟨g2, j, none⟩ by unfold Addr.add; split <;> simp_all]
              refine (HO4.out.alloc _).cells rfl j x ?_
              have := (eC_top 5 el rest).2.1
              rw [← this] at hj
              exact take_some _ _ _ _ hj))
            clear hown3 hgr3 hbl3 hbl4 hx3 ho4 hh3 hA1 hs1
            go_wp2_with (at_builtin; refine wpList_append_c _ rfl _ _ 81 rfl (w.heap.size + 1) 3 i0 (.int .i64 0) 1 8 Tryd.underlying81 hi hz0 hz1' hz2 rfl (by decide) _ _ _ rfl hA2.out (some ⟨g2, 0, none⟩) m cap2 (eC rest) rfl ?d0 (Or.inr ⟨_, rfl, hs2.out⟩) ?d2 ?d3 ?d4 ?d5 ?_)
            case d0 => rw [eC_len, HM.out]; omega
            case d2 => exact eC_one rest
            case d3 => unfold maxLen; omega
            case d4 => omega
            case d5 => simp; omega
            intro v4 w4 hown4 hgr4 hbl5
            have hbl6 : v4.ownBlock = some w3.heap.size ∨ v4.ownBlock = some (w3.heap.size + 1) := by simpa [Value.ownBlock] using hbl5
            have HL3 := HO3.out.lt
            have hx4 := Lib.hid (show Nx w w4 from Below.grown (HX3.out.alloc _) hgr4 (by simp; omega) (fun x hx => by simp [Value.ownBlock] at hx; omega))
            have ho5 := Lib.hid (ownC_grown (HO3.out.alloc (.cells #[] 3)) hgr4 (fun x hx hy => by
              simp [Value.ownBlock] at hy
              have := HL3 x hx
              omega))
            have hh4 := Lib.hid ((HH3.out.alloc (.cells #[] 3)).grown hgr4 (by simp [Value.ownBlock]; omega))
            have hown4 : OwnC w4 (w.heap.size + 1) 3 1 v4 m (eC rest) := by simpa using hown4
            have HO6 := Lib.hid hown4
            have hdis := Lib.hid (fun x (hx : v3.ownBlock = some x) (hy : v4.ownBlock = some x) => (show False by
              have h3 := HL3 x hx
              rcases hbl6 with h | h <;> (rw [h] at hy; simp at hy; omega)))
            clear hown4 hgr4 hbl5 hbl6 hA2 HL3 hs2
            go_wp2
            go_roundw
            case rel => exact ⟨k + 1, rest, by omega, by go_num, hre, by rw [← HM.out]; omega, by rw [← HM.out]; exact ho5.out, by rw [← HM.out]; exact HO6.out, hdis.out, hh4.out, hx4.out, HG.out⟩
            case measure => simp [intOf]; omega
        · have tq : ((tk : Int) != 5) = true := by simp; omega
          rw [if_pos (by simp [htk])] at hgo
          clear htk
          have hgo2 := hgo
          rw [HBK.out] at hgo2
          have HG := Lib.hid hgo2
          clear hgo hgo2
          go_wp2_with fail
          refine (CE.out _ (Nx.refl _)).mono ?_
          rintro e w3 ⟨rfl, hn3⟩
          have hh := HH.out.nx hn3
          unfold ro0 at hh
          have r0 := hh.cell 0 _ rfl
          have r1 := hh.cell 1 _ rfl
          have r2 := hh.cell 2 _ rfl
          have f0 := hh.free 0
          have f1 := hh.free 1
          have f2 := hh.free 2
          have HX3 := Lib.hid (HX2.out.trans hn3)
          clear hn3 hh
          go_wp2
          refine bodyPost_ret (v := .tuple #[.int .i64 0, .int .i64 0, .agg #[.int .i64 ka, .int .i64 kb, .int .i64 15]]) (by simp [results, Tryd.results20, go_sem, r0, r1, r2]) rfl ⟨by rw [← HG.out]; rfl, ?_⟩
          repeat (with_reducible first | exact HX3.out | refine Nx.setCell ?_ (Nat.le_refl _) _ | refine Nx.alloc ?_ _)
    · obtain rfl : k = ls.length := by omega
      have hgo' : badAt l = V := by
        rw [← hgo, List.drop_length]
        cases st <;> rfl
      rw [HBD.out] at hgo'
      have HG := Lib.hid hgo'
      have HH := Lib.hid hh0
      clear hgo hgo' ho1 ho2 hnx hst hdis hh0
      go_wp2_with fail
      refine (CF.out _ HNX.out).mono ?_
      rintro e w3 ⟨rfl, hn3⟩
      have hh := HH.out.nx hn3
      unfold ro0 at hh
      have r0 := hh.cell 0 _ rfl
      have r1 := hh.cell 1 _ rfl
      have r2 := hh.cell 2 _ rfl
      have f0 := hh.free 0
      have f1 := hh.free 1
      have f2 := hh.free 2
      have HX3 := Lib.hid (HNX.out.trans hn3)
      clear hn3 hh
      go_wp2
      refine bodyPost_ret (v := .tuple #[.int .i64 0, .int .i64 0, .agg #[.int .i64 la, .int .i64 lb, .int .i64 15]]) (by simp [results, Tryd.results20, go_sem, r0, r1, r2]) rfl ⟨by rw [← HG.out]; rfl, ?_⟩
      repeat (with_reducible first | exact HX3.out | refine Nx.setCell ?_ (Nat.le_refl _) _ | refine Nx.alloc ?_ _)

theorem rend_any (v : Value) (ls : List (List Tok)) (a : Int) (w : World) (hL : Lins w v ls) (hn : ls.length ≤ 1000000) :
    Calls Tryd.prog 20 #[v, .int .i64 a] w fun e w' => e = .returned (endV (endR ls a)) ∧ Nx w w' := by
  by_cases h : a < 0 ∨ (ls.length : Int) ≤ a
  · exact rend_out v ls a w hL h
  · obtain ⟨n, rfl⟩ := Int.eq_ofNat_of_zero_le (show 0 ≤ a by omega)
    obtain ⟨l, hl⟩ : ∃ l, ls[n]? = some l := ⟨_, List.getElem?_eq_getElem (by omega)⟩
    cases hb : begB (kindP l)
    · exact rend_plain v ls n l w hL hl hb
    · have hk : kindP l = 1 ∨ kindP l = 3 ∨ kindP l = 5 := by
        unfold begB at hb
        simp at hb
        omega
      rcases hk with h | h | h
      · exact rend_in1 v ls n l w hL hn hl h
      · exact rend_in3 v ls n l w hL hn hl h
      · exact rend_in5 v ls n l w hL hn hl h

end Go.Proofs.YtbkgdepblaibkaaDoor
