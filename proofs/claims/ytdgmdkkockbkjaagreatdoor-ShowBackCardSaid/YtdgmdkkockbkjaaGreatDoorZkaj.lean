/- Parts of the proof, one behind the other. -/
import Derived.Test.YtdgmdkkockbkjaaGreatDoorShwc
import Derived.Test.YtdgmdkkockbkjaaGreatDoorZkab
import Derived.Test.YtdgmdkkockbkjaaGreatDoorZkah
import Derived.Test.YtdgmdkkockbkjaaGreatDoorZkai
/- Contract of typecaseref16.Parse, at the tokens of a text. -/
namespace Go.Proofs.YtdgmdkkockbkjaaGreatDoor
open Go.RowKit
set_option linter.unusedVariables false
set_option linter.unusedSimpArgs false

/-- An operand in memory. -/
structure Arg where
  o : Opd
  ln : Int
  cl : Int
  nv : Value
  ns : List Nod

abbrev argQ (q : Arg) : List Value := argC (kindO q.o) q.ln q.cl (rgO q.o) q.nv

def argsC (qs : List Arg) : List Value := qs.flatMap argQ

theorem argsC_snoc (qs : List Arg) (q : Arg) : argsC (qs ++ [q]) = argsC qs ++ argQ q := by unfold argsC; simp

theorem argsC_at (qs : List Arg) : ∀ (k : Nat) (q : Arg), qs[k]? = some q → ∀ (j : Nat) (v : Value), (argQ q)[j]? = some v → (argsC qs)[k * 6 + j]? = some v := by
  induction qs with
  | nil => intro k q h; cases h
  | cons a qs ih =>
    intro k q hk j v hj
    have hjl := (List.getElem?_eq_some_iff.1 hj).1
    unfold argsC at ih ⊢
    rw [List.flatMap_cons]
    cases k with
    | zero =>
      simp at hk
      subst hk
      rw [Nat.zero_mul, Nat.zero_add, List.getElem?_append_left hjl]
      exact hj
    | succ k =>
      rw [List.getElem?_append_right (by simp [argC]; omega)]
      have := ih k q hk j v hj
      rw [show (k + 1) * 6 + j - (argQ a).length = k * 6 + j by simp [argC]; omega]
      exact this

/-- Operands in a row of one's own, their nodes elsewhere. -/
def OwnA (w : World) (base : Nat) (v : Value) (qs : List Arg) : Prop :=
  OwnC w base 71 6 v qs.length (argsC qs) ∧ ∀ q ∈ qs, Nods w q.nv q.ns ∧ q.ns.map nodK = nodO q.o ∧ ∀ g, q.nv.ownBlock = some g → base ≤ g ∧ g < w.heap.size ∧ v.ownBlock ≠ some g

theorem OwnA.nil (w : World) (base : Nat) : OwnA w base (.slice none 0 0) [] := ⟨OwnC.nil _ _ _ _, fun q hq => by cases hq⟩

theorem OwnA.nx {w w' : World} {base : Nat} {v : Value} {qs : List Arg} (h : OwnA w base v qs) (hn : Nx w w') : OwnA w' base v qs :=
  ⟨h.1.nx hn, fun q hq => ⟨(h.2 q hq).1.nx hn, (h.2 q hq).2.1, fun g hg => ⟨((h.2 q hq).2.2 g hg).1, Nat.lt_of_lt_of_le ((h.2 q hq).2.2 g hg).2.1 hn.size, ((h.2 q hq).2.2 g hg).2.2⟩⟩⟩

theorem OwnA.set_ {w : World} {base : Nat} {v : Value} {qs : List Arg} (h : OwnA w base v qs) {p : Addr} (hp : p.block < base) (x : Value) : OwnA (w.setCell p x) base v qs :=
  ⟨own_set h.1 hp x, fun q hq => ⟨(h.2 q hq).1.kept fun g hg => Below.heap_setCell w p x g (fun e => by have := ((h.2 q hq).2.2 g hg).1; omega), (h.2 q hq).2.1, fun g hg => ⟨((h.2 q hq).2.2 g hg).1, by simpa using ((h.2 q hq).2.2 g hg).2.1, ((h.2 q hq).2.2 g hg).2.2⟩⟩⟩

theorem OwnA.form {w : World} {base : Nat} {v : Value} {qs : List Arg} (h : OwnA w base v qs) : ∃ A c, v = .slice A qs.length c := OwnC.form h.1

theorem OwnA.low {w : World} {base b : Nat} {v : Value} {qs : List Arg} (h : OwnA w base v qs) (hb : b ≤ base) : OwnA w b v qs := by
  refine ⟨⟨h.1.1, ?_⟩, fun q hq => ⟨(h.2 q hq).1, (h.2 q hq).2.1, fun g hg => ⟨Nat.le_trans hb ((h.2 q hq).2.2 g hg).1, ((h.2 q hq).2.2 g hg).2⟩⟩⟩
  rcases h.1.2 with h1 | ⟨g, cap, cur, h1, h2, h3⟩
  · exact Or.inl h1
  · exact Or.inr ⟨g, cap, cur, h1, Nat.le_trans hb h2, h3⟩

/-- One operand more. -/
theorem OwnA.push {w w' : World} {base : Nat} {v v' : Value} {qs : List Arg} {q : Arg} (h : OwnA w base v qs) (ht : Nods w q.nv q.ns) (hk : q.ns.map nodK = nodO q.o) (hu : ∀ g, q.nv.ownBlock = some g → base ≤ g ∧ g < w.heap.size ∧ v.ownBlock ≠ some g)
    (hg : w.grownBy w' v.ownBlock) {H : Nat} (hv : v'.ownBlock = v.ownBlock ∨ v'.ownBlock = some H) (hH : w.heap.size = H) (hown : OwnC w' base 71 6 v' (qs.length + 1) (argsC qs ++ argQ q)) : OwnA w' base v' (qs ++ [q]) := by
  subst hH
  refine ⟨by rw [argsC_snoc, List.length_append, List.length_singleton]; exact hown, fun x hx => ?_⟩
  have one : Nods w x.nv x.ns ∧ x.ns.map nodK = nodO x.o ∧ ∀ g, x.nv.ownBlock = some g → base ≤ g ∧ g < w.heap.size ∧ v.ownBlock ≠ some g := by
    rcases List.mem_append.1 hx with hx | hx
    · exact h.2 x hx
    · simp at hx; subst hx; exact ⟨ht, hk, hu⟩
  obtain ⟨h1, h0, h2⟩ := one
  refine ⟨h1.kept fun g hgx => hg.block g (h2 g hgx).2.1 (fun e => (h2 g hgx).2.2 e.symm), h0, fun g hgx => ⟨(h2 g hgx).1, Nat.lt_of_lt_of_le (h2 g hgx).2.1 hg.size, ?_⟩⟩
  rcases hv with e | e
  · rw [e]; exact (h2 g hgx).2.2
  · rw [e]; intro e2
    have := (h2 g hgx).2.1
    injection e2 with e2
    omega

theorem opnd_info : (Tryz.prog.info? 71).map (fun i => (i.zero, i.size, i.bytes)) = some (some (.agg #[.int .i64 0, .int .i64 0, .int .i64 0, .int .i64 0, .slice none 0 0, .string (B [])]), 6, 72) := by kernel_rfl

/-- A statement in memory. -/
abbrev stmO (nm : List UInt8) (ln cl : Int) (av : Value) : Obj := .cells #[.slice none 0 0, .string (B nm), .int .i64 ln, .int .i64 cl, av] 36

abbrev stmV (nm : List UInt8) (ln cl : Int) (av : Value) : Value := .agg #[.slice none 0 0, .string (B nm), .int .i64 ln, .int .i64 cl, av]

abbrev fltO : Obj := .cells #[.int .i64 0, .int .i64 0, .int .i64 0] 29

abbrev fltV : Value := .agg #[.int .i64 0, .int .i64 0, .int .i64 0]

/-- What comes of Parse: a statement of that name and those operands, and no fault. -/
def RetStm (nm : List UInt8) (os : List Opd) (w : World) (e : Ending) (w' : World) : Prop :=
  ∃ ln cl av qs, e = .returned (.tuple #[stmV nm ln cl av, fltV]) ∧ Nx w w' ∧ qs.map Arg.o = os ∧ OwnA w' w.heap.size av qs

theorem num_head2 (v : Int) (ks : List (Int × List UInt8 × Int)) : ∃ k r, numK v ++ ks = k :: r ∧ (k.1 ≠ 7 ∨ k.2.1 ≠ [58]) := by
  unfold numK
  split
  · exact ⟨_, _, rfl, Or.inr (by decide)⟩
  · exact ⟨_, _, rfl, Or.inl (by show (5 : Int) ≠ 7; decide)⟩

theorem opK_head (o : Opd) (ks : List (Int × List UInt8 × Int)) : ∃ k r, opK o ++ ks = k :: r ∧ (k.1 ≠ 7 ∨ k.2.1 ≠ [58]) := by
  cases o with
  | reg n => exact ⟨_, _, rfl, Or.inl (by show (1 : Int) ≠ 7; decide)⟩
  | imm v => exact num_head2 v ks
  | mem v n =>
    obtain ⟨k, r, h, hk⟩ := num_head2 v ((7, [40], 0) :: (1, regNP n, 0) :: (7, [41], 0) :: ks)
    refine ⟨k, r, ?_, hk⟩
    rw [← h]
    show (numK v ++ [(7, [40], 0), (1, regNP n, 0), (7, [41], 0)]) ++ ks = _
    simp
  | here v => exact ⟨_, _, rfl, Or.inl (by show (1 : Int) ≠ 7; decide)⟩

theorem opK_ne (o : Opd) : 1 ≤ (opK o).length := by
  obtain ⟨k, r, h, _⟩ := opK_head o []
  rw [List.append_nil] at h
  rw [h]; simp

theorem no_labels {l : List Tok} {nm : List UInt8} {os : List Opd} (h : l.map keyT = (1, nm, 0) :: opsK os) : labelsP l = 0 := by
  obtain ⟨t, r, rfl, h1, h2⟩ := map_inv h
  cases os with
  | nil =>
    have := map_nil h2
    subst this
    rfl
  | cons o os =>
    obtain ⟨k, q, he, hne⟩ := opK_head o (tailK os)
    have h2 : r.map keyT = k :: q := h2.trans he
    obtain ⟨t2, r2, rfl, h3, h4⟩ := map_inv h2
    obtain ⟨a, b, _⟩ := keyT_inv (show keyT t2 = (k.1, k.2.1, k.2.2) from h3)
    rw [labels_two, if_neg]
    rintro ⟨_, c, d⟩
    rcases hne with h | h
    · exact h (a ▸ c)
    · exact h (b ▸ d)

theorem tail_tail (os : List Opd) : tailOk (tailK os) := by
  cases os with
  | nil => exact Or.inl rfl
  | cons o r => exact Or.inr ⟨_, rfl⟩

/-- What holds at the head of the operands' loop. -/
def StmRel (l : List Tok) (nm : List UInt8) (os : List Opd) (ln cl : Int) (w wr : World) (iv : Value) : Prop :=
  ∃ (k i : Nat) (av : Value) (qs : List Arg), iv = .int .i64 i ∧ k ≤ os.length ∧ qs.map Arg.o = os.take k ∧ ((os.drop k = [] ∧ i = l.length) ∨ ∃ o r, os.drop k = o :: r ∧ i < l.length ∧ (l.drop i).map keyT = opK o ++ tailK r) ∧
    Has wr w.heap.size (stmO [] 0 0 (.slice none 0 0)) ∧ Has wr (w.heap.size + 1) fltO ∧ Has wr (w.heap.size + 1 + 1) (stmO nm ln cl av) ∧ OwnA wr (w.heap.size + 1 + 1 + 1) av qs ∧ Nx w wr

set_option maxHeartbeats 16000000 in
set_option maxRecDepth 100000 in
theorem stm_any (v : Value) (l : List Tok) (nm : List UInt8) (os : List Opd) (w : World) (hT : Toks w v l) (hl : l.length ≤ 100000) (hk : l.map keyT = (1, nm, 0) :: opsK os) (hos : ∀ o ∈ os, opOk o) (hol : os.length ≤ 3) :
    Calls Tryz.prog 7 #[v] w (RetStm nm os w) := by
  obtain ⟨i0, hi, hz0, hz1, hz2⟩ := info_parts opnd_info
  have HI := Lib.hid (And.intro hi (And.intro hz0 (And.intro hz1 hz2)))
  clear hi hz0 hz1 hz2
  have CL := Lib.hid (show ∀ w', Nx w w' → Calls Tryz.prog 18 #[v] w' fun e w2 => e = .returned (.int .i64 0) ∧ w' = w2 from fun w' h => by
    have := rlabels_any v l w' (hT.nx h) (by omega)
    rw [no_labels hk] at this
    exact this)
  have HTT := Lib.hid hT
  have hk0 : (l.drop 0).map keyT = (1, nm, 0) :: opsK os := hk
  obtain ⟨t, ht, hkt, hnext⟩ := key_at hk0
  have hlt := (List.getElem?_eq_some_iff.1 ht).1
  obtain ⟨A, c, rfl, hc1, hc2, hA⟩ := hT.form
  obtain ⟨g, o, rfl, hTA⟩ : ∃ g o, A = some ⟨g, o, none⟩ ∧ TokAt w g o l := by
    rcases hA with ⟨_, h, _⟩ | h
    · subst h; cases ht
    · exact h
  obtain ⟨a0, a1, a2, a3, a4, a5⟩ := hTA.at_ 0 t ht
  obtain ⟨q1, q2, _⟩ := keyT_inv hkt
  obtain ⟨kd, ln, cl, tx, nu, sc⟩ := t
  dsimp only at a0 a1 a2 a3 a4 a5 q1 q2
  subst q1 q2
  simp only [Nat.zero_mul, Nat.add_zero] at a0 a1 a2 a3
  have hlI : (0 : Int) < l.length := by omega
  have hle : l ≠ [] := by intro e; subst e; simp at hlt
  have hle2 : ¬ l.length = 0 := by omega
  have hle3 : decide ((0 : Int) ≥ l.length) = false := decide_eq_false (by omega)
  have hl1 : (l.length : Int) ≤ 100000 := by omega
  have hg : g < w.heap.size := block_lt a0
  have hg1 : g < w.heap.size + 1 := by omega
  have hg2 : g < w.heap.size + 1 + 1 := by omega
  have hg3 : g ≠ w.heap.size := by omega
  have hg4 : g ≠ w.heap.size + 1 := by omega
  have hg5 : g ≠ w.heap.size + 1 + 1 := by omega
  have HNX := Lib.hid hnext
  have HOS := Lib.hid hos
  clear hT hA hTA ht hk hk0 hkt a4 a5 hnext hos
  unfold maxLen at hc2
  go_enter Tryz.func7, Tryz.ntmps7
  go_wp2_with fail
  refine (CL.out _ ((((Nx.refl w).alloc _).alloc _).alloc _)).mono ?_
  rintro e w2 ⟨rfl, hw2⟩
  subst hw2
  go_wp2
  go_loop [6] (fun iv => iv = .int .i64 0) (fun _ => 1)
  case atStart => rfl
  case round =>
    subst hrel
    go_wp2
    go_loopw [7] (fun iv wr => StmRel l tx os ln cl w wr iv) (fun iv _ => l.length + 1 - (intOf iv).toNat)
    case atStart =>
      refine ⟨0, 1, .slice none 0 0, [], rfl, Nat.zero_le _, rfl, ?_, ((Has.new w (stmO [] 0 0 (.slice none 0 0))).alloc _).alloc _, (Has.at_ (w.alloc (stmO [] 0 0 (.slice none 0 0))) fltO (by simp)).alloc _, Has.at_ _ _ (by simp), OwnA.nil _ _, (((Nx.refl w).alloc _).alloc _).alloc _⟩
      have hn := HNX.out
      cases os with
      | nil => exact Or.inl ⟨rfl, by have := key_nil (i := 1) hn; omega⟩
      | cons q r =>
        refine Or.inr ⟨q, r, rfl, ?_, hn⟩
        have h1 := key_len (i := 1) hn
        have h2 := opK_ne q
        unfold opsK at h1
        rw [List.length_append] at h1
        omega
    case round =>
      obtain ⟨k, i, av, qs, rfl, hkl, hqs, hor, h2, h3, h4, hown, hnx⟩ := hrel
      obtain ⟨Av, cv, rfl⟩ := hown.form
      have hql : qs.length ≤ 3 := by
        have := congrArg List.length hqs
        simp at this
        omega
      have K2 := Lib.hid h2
      have K3 := Lib.hid h3
      have K4 := Lib.hid h4
      have HO := Lib.hid hown
      have HN := Lib.hid hnx
      have HQ := Lib.hid hqs
      have le2 : w.heap.size ≤ w.heap.size + 1 + 1 := by omega
      have le3 : w.heap.size ≤ w.heap.size + 1 + 1 + 1 := by omega
      have lt0 : w.heap.size < w.heap.size + 1 + 1 + 1 := by omega
      have lt1 : w.heap.size + 1 < w.heap.size + 1 + 1 + 1 := by omega
      have lt2 : w.heap.size + 1 + 1 < w.heap.size + 1 + 1 + 1 := by omega
      clear h2 h3 h4 hown hnx hqs HNX
      rcases hor with ⟨hd, rfl⟩ | ⟨q, r, hd, hil, hkk⟩
      · have hke : os.take k = os := by
          have := congrArg List.length hd
          simp at this
          exact List.take_of_length_le (by omega)
        have HKE := Lib.hid hke
        clear hke hd
        have sc0 := K4.out.cell 0 _ rfl
        have sf0 := K4.out.free 0
        have sc1 := K4.out.cell 1 _ rfl
        have sf1 := K4.out.free 1
        have sc2 := K4.out.cell 2 _ rfl
        have sf2 := K4.out.free 2
        have sc3 := K4.out.cell 3 _ rfl
        have sf3 := K4.out.free 3
        have sc4 := K4.out.cell 4 _ rfl
        have sf4 := K4.out.free 4
        have sz := K4.out.lt
        have pc0 := K2.out.cell 0 _ rfl
        have pf0 := K2.out.free 0
        have pc1 := K2.out.cell 1 _ rfl
        have pf1 := K2.out.free 1
        have pc2 := K2.out.cell 2 _ rfl
        have pf2 := K2.out.free 2
        have pc3 := K2.out.cell 3 _ rfl
        have pf3 := K2.out.free 3
        have pc4 := K2.out.cell 4 _ rfl
        have pf4 := K2.out.free 4
        have pz := K2.out.lt
        have qc0 := K3.out.cell 0 _ rfl
        have qf0 := K3.out.free 0
        have qc1 := K3.out.cell 1 _ rfl
        have qf1 := K3.out.free 1
        have qc2 := K3.out.cell 2 _ rfl
        have qf2 := K3.out.free 2
        have qz := K3.out.lt
        go_wp2
        refine bodyPost_ret (v := .tuple #[stmV tx ln cl (.slice Av qs.length cv), fltV]) (by simp [results, Tryz.results7, go_sem, sc0, sc1, sc2, sc3, sc4, sf0, sf1, sf2, sf3, sf4, pc0, pc1, pc2, pc3, pc4, pf0, pf1, pf2, pf3, pf4, qc0, qc1, qc2, qf0, qf1, qf2, sz, pz, qz]) rfl ?_
        exact ⟨ln, cl, _, _, rfl, by repeat (with_reducible first | exact HN.out | refine Nx.setCell ?_ (Nat.le_refl _) _ | refine Nx.setCell ?_ (Nat.le_succ _) _ | refine Nx.setCell ?_ le2 _), HQ.out.trans HKE.out, OwnA.low (by repeat (with_reducible first | exact HO.out | refine OwnA.set_ ?_ lt0 _ | refine OwnA.set_ ?_ lt1 _ | refine OwnA.set_ ?_ lt2 _)) le3⟩
      · have hqo : opOk q := HOS.out q (by have : q ∈ os.drop k := by rw [hd]; exact List.mem_cons_self
                                           exact List.mem_of_mem_drop this)
        obtain ⟨ns, hns, hC, hrest⟩ := opd_any _ l i q (tailK r) wr (HTT.out.nx HN.out) hl hkk hqo (tail_tail r)
        have hj1 := opK_ne q
        have hjl : i + (opK q).length ≤ l.length := by
          have := key_len hkk
          rw [List.length_append] at this
          omega
        have htk : os.take (k + 1) = os.take k ++ [q] := take_snoc' _ _ _ (by rw [← List.head?_drop, hd]; rfl)
        have hdr : os.drop (k + 1) = r := by rw [← List.drop_drop, hd]; rfl
        have hk3 : k + 1 ≤ os.length := by
          have := congrArg List.length hd
          simp at this
          omega
        obtain ⟨j, hj⟩ : ∃ j, i + (opK q).length = j := ⟨_, rfl⟩
        rw [hj] at hC hrest hjl
        have HC := Lib.hid hC
        have HR := Lib.hid hrest
        have HNS := Lib.hid hns
        have HTK := Lib.hid htk
        have HDR := Lib.hid hdr
        have hij : i < j := by omega
        have hilI : (i : Int) < l.length := by omega
        have hjlI : (j : Int) ≤ l.length := by omega
        obtain ⟨kq, hkq⟩ : ∃ x, kindO q = x := ⟨_, rfl⟩
        obtain ⟨rq, hrq⟩ : ∃ x, rgO q = x := ⟨_, rfl⟩
        rw [hkq, hrq] at HC
        have HKQ := Lib.hid hkq
        have HRQ := Lib.hid hrq
        clear hd hkk hC hrest hns htk hdr hkq hrq hj hj1 hqo
        have szr := K4.out.lt
        go_wp2_with fail
        refine HC.out.mono ?_
        rintro e w5 ⟨ln1, cl1, nv, rfl, hn5, hN, hfr⟩
        obtain ⟨An, cn, rfl, _, _, _⟩ := hN.form
        have K2 := Lib.hid (K2.out.nx hn5)
        have K3 := Lib.hid (K3.out.nx hn5)
        have K4 := Lib.hid (K4.out.nx hn5)
        have HN := Lib.hid (HN.out.trans hn5)
        have HNN := Lib.hid hN
        have HF := Lib.hid hfr
        have HVO := Lib.hid (show ∀ x, (Value.slice Av qs.length cv).ownBlock = some x → x < wr.heap.size from fun x hx => (HO.out.1.lt x hx).2)
        have HO := Lib.hid (HO.out.nx hn5)
        clear hn5 hN hfr HC
        have sc0 := K4.out.cell 0 _ rfl
        have sf0 := K4.out.free 0
        have sc1 := K4.out.cell 1 _ rfl
        have sf1 := K4.out.free 1
        have sc2 := K4.out.cell 2 _ rfl
        have sf2 := K4.out.free 2
        have sc3 := K4.out.cell 3 _ rfl
        have sf3 := K4.out.free 3
        have sc4 := K4.out.cell 4 _ rfl
        have sf4 := K4.out.free 4
        have sz := K4.out.lt
        have sz1 : w.heap.size + 1 + 1 < w5.heap.size + 1 := by omega
        have sz2 : w.heap.size + 1 + 1 < w5.heap.size + 1 + 1 := by omega
        have sn0 : w.heap.size + 1 + 1 ≠ w5.heap.size := by omega
        have sn1 : w.heap.size + 1 + 1 ≠ w5.heap.size + 1 := by omega
        have sn2 : w.heap.size + 1 + 1 ≠ w5.heap.size + 1 + 1 := by omega
        obtain ⟨hi, hz0, hz1, hz2⟩ := HI.out
        have HW := Lib.hid (show Nx w5 (((w5.alloc (.cells #[.int .i64 kq, .int .i64 ln1, .int .i64 cl1, .int .i64 rq, .slice An ns.length cn, .string (B [])] 71)).alloc fltO).alloc (.cells #[.int .i64 kq, .int .i64 ln1, .int .i64 cl1, .int .i64 rq, .slice An ns.length cn, .string (B [])] 71)) from (((Nx.refl w5).alloc _).alloc _).alloc _)
        have hA := Lib.hid (HO.out.1.nx HW.out)
        go_wp2_with (at_builtin; refine wpList_append_c _ rfl _ _ 34 rfl (w.heap.size + 1 + 1 + 1) 71 i0 (.agg #[.int .i64 0, .int .i64 0, .int .i64 0, .int .i64 0, .slice none 0 0, .string (B [])]) 6 72 Tryz.underlying34 hi hz0 hz1 hz2 rfl (by decide) _ _ _ rfl hA.out (some ⟨w5.heap.size + 1 + 1, 0, none⟩) 1 1 [.int .i64 kq, .int .i64 ln1, .int .i64 cl1, .int .i64 rq, .slice An ns.length cn, .string (B [])] rfl rfl (Or.inr ⟨_, rfl, ?a1⟩) ?a2 ?a3 ?a4 ?a5 ?_)
        case a1 => exact rowc_at _ _ _ _ (by simp)
        case a2 => simp [Value.oneCell']
        case a3 => unfold maxLen; omega
        case a4 => omega
        case a5 => first | omega | (simp; omega)
        intro v3 w3 hown3 hgr3 hbl3
        have kr : ∀ x, x < w.heap.size + 1 + 1 + 1 → (Value.slice Av qs.length cv).ownBlock ≠ some x := fun x hx e => by have := (hA.out.lt _ e).1; omega
        have K2 := Lib.hid ((K2.out.nx HW.out).keep_grown hgr3 (kr _ lt0))
        have K3 := Lib.hid ((K3.out.nx HW.out).keep_grown hgr3 (kr _ lt1))
        have K4 := Lib.hid ((K4.out.nx HW.out).keep_grown hgr3 (kr _ lt2))
        have hw3 := hA.out.lt
        have HN := Lib.hid (show Nx w w3 from Below.grown (HN.out.trans HW.out) hgr3 (HN.out.trans HW.out).size (fun x hx => by have := (hw3 x hx).1; omega))
        have HO := Lib.hid (OwnA.push (q := ⟨q, ln1, cl1, .slice An ns.length cn, ns⟩) (HO.out.nx HW.out) (HNN.out.nx HW.out) HNS.out (fun x hx => ⟨by have := (HF.out x hx).1; omega, Nat.lt_of_lt_of_le (HF.out x hx).2 HW.out.size, fun e => by have := HVO.out x e; have := (HF.out x hx).1; omega⟩) hgr3 hbl3 (by simp) (by unfold argQ argC; dsimp only; rw [HKQ.out, HRQ.out]; exact hown3))
        obtain ⟨A3, c3, hv3⟩ := hown3.form
        subst hv3
        clear hown3 hgr3 hbl3 kr hw3 hA HW HNN HF HVO HNS
        clear sc0 sf0 sc1 sf1 sc2 sf2 sc3 sf3 sc4 sf4 sz sz1 sz2 sn0 sn1 sn2
        have sc0 := K4.out.cell 0 _ rfl
        have sf0 := K4.out.free 0
        have sc1 := K4.out.cell 1 _ rfl
        have sf1 := K4.out.free 1
        have sc2 := K4.out.cell 2 _ rfl
        have sf2 := K4.out.free 2
        have sc3 := K4.out.cell 3 _ rfl
        have sf3 := K4.out.free 3
        have sc4 := K4.out.cell 4 _ rfl
        have sf4 := K4.out.free 4
        have sz := K4.out.lt
        have HO4 := Lib.hid (HO.out.set_ (p := ⟨w.heap.size + 1 + 1, 4, none⟩) lt2 (.slice A3 (qs.length + 1) c3))
        have HN4 := Lib.hid (HN.out.setCell (p := ⟨w.heap.size + 1 + 1, 4, none⟩) le2 (.slice A3 (qs.length + 1) c3))
        have HQ1 := Lib.hid (show (qs ++ [(⟨q, ln1, cl1, .slice An ns.length cn, ns⟩ : Arg)]).map Arg.o = os.take (k + 1) by rw [HTK.out, List.map_append, HQ.out]; rfl)
        cases r with
        | nil =>
          have hje : l.length ≤ j := key_nil HR.out
          have hjeI : (l.length : Int) ≤ j := by omega
          have HKE := Lib.hid (show os.take (k + 1) = os by
            have := congrArg List.length HDR.out
            simp at this
            exact List.take_of_length_le (by omega))
          have pc0 := K2.out.cell 0 _ rfl
          have pf0 := K2.out.free 0
          have pc1 := K2.out.cell 1 _ rfl
          have pf1 := K2.out.free 1
          have pc2 := K2.out.cell 2 _ rfl
          have pf2 := K2.out.free 2
          have pc3 := K2.out.cell 3 _ rfl
          have pf3 := K2.out.free 3
          have pc4 := K2.out.cell 4 _ rfl
          have pf4 := K2.out.free 4
          have pz := K2.out.lt
          have qc0 := K3.out.cell 0 _ rfl
          have qf0 := K3.out.free 0
          have qc1 := K3.out.cell 1 _ rfl
          have qf1 := K3.out.free 1
          have qc2 := K3.out.cell 2 _ rfl
          have qf2 := K3.out.free 2
          have qz := K3.out.lt
          go_wp2
          refine bodyPost_ret (v := .tuple #[stmV tx ln cl (.slice A3 (qs.length + 1) c3), fltV]) (by simp [results, Tryz.results7, go_sem, sc0, sc1, sc2, sc3, sc4, sf0, sf1, sf2, sf3, sf4, pc0, pc1, pc2, pc3, pc4, pf0, pf1, pf2, pf3, pf4, qc0, qc1, qc2, qf0, qf1, qf2, sz, pz, qz]) rfl ?_
          exact ⟨ln, cl, _, _, rfl, by repeat (with_reducible first | exact HN4.out | exact HN.out | refine Nx.setCell ?_ (Nat.le_refl _) _ | refine Nx.setCell ?_ (Nat.le_succ _) _ | refine Nx.setCell ?_ le2 _), HQ1.out.trans HKE.out, OwnA.low (by repeat (with_reducible first | exact HO4.out | exact HO.out | refine OwnA.set_ ?_ lt0 _ | refine OwnA.set_ ?_ lt1 _ | refine OwnA.set_ ?_ lt2 _)) le3⟩
        | cons q2 r2 =>
          have hr2 : (l.drop j).map keyT = (7, [44], 0) :: (opK q2 ++ tailK r2) := HR.out
          obtain ⟨_, _, _, hnx2⟩ := key_at hr2
          have HM := Lib.hid (fun w' (h : Nx w w') => mark_yes hr2 ▸ mark_any _ l j [44] w' (HTT.out.nx h) hl (by omega))
          have hj2 : j + 1 < l.length := by
            have h1 := key_len hnx2
            rw [List.length_append] at h1
            have := opK_ne q2
            omega
          have hj2I : (j : Int) + 1 < l.length := by omega
          have HX2 := Lib.hid hnx2
          clear hr2 hnx2
          go_wp2_with fail
          refine (HM.out _ HN4.out).mono ?_
          rintro e w7 ⟨rfl, hn7⟩
          have K2 := Lib.hid ((K2.out.far (p := ⟨w.heap.size + 1 + 1, 4, none⟩) (by show w.heap.size ≠ w.heap.size + 1 + 1; omega) (.slice A3 (qs.length + 1) c3)).nx hn7)
          have K3 := Lib.hid ((K3.out.far (p := ⟨w.heap.size + 1 + 1, 4, none⟩) (by show w.heap.size + 1 ≠ w.heap.size + 1 + 1; omega) (.slice A3 (qs.length + 1) c3)).nx hn7)
          have K4 := Lib.hid ((K4.out.put 4 (.slice A3 (qs.length + 1) c3)).nx hn7)
          have HO5 := Lib.hid (HO4.out.nx hn7)
          have HN5 := Lib.hid (HN4.out.trans hn7)
          clear hn7
          go_wp2
          go_roundw
          case rel => exact ⟨k + 1, j + 1, .slice A3 (qs.length + 1) c3, _, by go_num, hk3, HQ1.out, Or.inr ⟨q2, r2, HDR.out, hj2, HX2.out⟩, K2.out, K3.out, K4.out, HO5.out, HN5.out⟩
          case measure => simp [intOf]; omega

end Go.Proofs.YtdgmdkkockbkjaaGreatDoor

/- Layer 23, plain: what the operands of a text make of an instruction is the instruction. -/
namespace Go.Proofs.YtdgmdkkockbkjaaGreatDoor
open Go.RowKit
set_option linter.unusedVariables false
set_option linter.unusedSimpArgs false

/-- What an operand of a letter changes. -/
def upd (i w : In5) (c : UInt8) : In5 :=
  if c = 100 then { w with rd := i.rd } else if c = 120 then { w with rd := i.rd, rs1 := i.rd } else if c = 115 then { w with rs1 := i.rs1 } else if c = 116 then { w with rs2 := i.rs2 }
  else if c = 117 then { w with imm := i.imm } else if c = 109 then { w with rs1 := i.rs1, imm := i.imm } else if c = 106 then w else { w with imm := i.imm }

/-- The instruction of a name, without operands. -/
def ins0 (i : In5) (s : List UInt8) : In5 := ⟨i.op, if s = [99, 46, 106, 97, 108] ∨ s = [99, 46, 106, 97, 108, 114] then 1 else 0, 0, 0, 0⟩

/-- What it is, as far as its letters tell. -/
def endI (i : In5) (s : List UInt8) : In5 := if (lsT i s).contains 106 = true then { i with imm := 0 } else i

theorem back_op (i : In5) (hm : mayB i.op i.rd i.rs1 i.rs2 i.imm = true) : (letF (formN i.op)).foldl (upd i) ⟨i.op, 0, 0, 0, 0⟩ = if (letF (formN i.op)).contains 106 = true then { i with imm := 0 } else i := by
  obtain ⟨op, rd, rs1, rs2, imm⟩ := i
  dsimp only at hm ⊢
  rcases formN_range op with hf | hf | hf | hf | hf | hf | hf | hf | hf | hf <;>
      simp [mayB, hf, needD, needS, needT, regB, numB] at hm <;> simp [hf, letF, upd] <;> simp [hm] <;> try omega

set_option maxHeartbeats 4000000 in
theorem back_row (n : Nat) (r : PR) (hr : rowsL[n]? = some r) (i : In5) (hi : fitsB r i.op i.rd i.rs1 i.rs2 i.imm = true) :
    (letSL.getD n []).foldl (upd i) (ins0 i (shB.getD n [])) = if (letSL.getD n []).contains 106 = true then { i with imm := 0 } else i := by
  have hn : n < 27 := (List.getElem?_eq_some_iff.1 hr).1
  obtain ⟨op, rd, rs1, rs2, imm⟩ := i
  dsimp only at hi ⊢
  unfold fitsB at hi
  simp only [Bool.and_eq_true, beq_iff_eq, decide_eq_true_eq] at hi
  obtain ⟨i1, _, i3, i4, i5, i6, i7, i8, i9⟩ := hi
  rcases (by omega : n = 0 ∨ n = 1 ∨ n = 2 ∨ n = 3 ∨ n = 4 ∨ n = 5 ∨ n = 6 ∨ n = 7 ∨ n = 8 ∨ n = 9 ∨ n = 10 ∨ n = 11 ∨ n = 12 ∨ n = 13 ∨ n = 14 ∨ n = 15 ∨ n = 16 ∨ n = 17 ∨ n = 18 ∨ n = 19 ∨ n = 20 ∨ n = 21 ∨ n = 22 ∨ n = 23 ∨ n = 24 ∨ n = 25 ∨ n = 26) with rfl | rfl | rfl | rfl | rfl | rfl | rfl | rfl | rfl | rfl | rfl | rfl | rfl | rfl | rfl | rfl | rfl | rfl | rfl | rfl | rfl | rfl | rfl | rfl | rfl | rfl | rfl
  all_goals
    cases hr
    simp [kindB] at i3 i4 i5
    simp only at i1 i6 i7 i8 i9
    simp [letSL, upd, ins0, shB]
    try omega

theorem fitS_row (s : List UInt8) (op rd rs1 rs2 imm : Int) (h : fitS (B s) op rd rs1 rs2 imm = true) : ∃ (n : Nat) (r : PR), rowsL[n]? = some r ∧ r.name = s ∧ s = shB.getD n [] ∧ shB.idxOf s = n ∧ fitsB r op rd rs1 rs2 imm = true ∧ ∀ a b c d e, fitS (B s) a b c d e = fitsB r a b c d e := by
  unfold fitS findR at h ⊢
  cases hf : findP (B s) with
  | none => rw [hf] at h; cases h
  | some r =>
    rw [hf] at h
    obtain ⟨e, n, hn⟩ := findP_at _ _ hf
    have e2 : r.name = s := by rw [e, ByteArray.toList_eq]
    have e3 := name_at n r hn
    refine ⟨n, r, hn, e2, by rw [← e2]; exact e3.1, by rw [← e2]; exact e3.2, by simpa using h, fun a b c d e => by simp⟩

theorem back_all (i : In5) (s : List UInt8) (h : okT i s = true) : (lsT i s).foldl (upd i) (ins0 i s) = endI i s := by
  unfold endI lsT
  by_cases hs : s = []
  · subst hs
    rw [if_pos rfl]
    have := back_op i (okT_may i _ h)
    have e : ins0 i [] = ⟨i.op, 0, 0, 0, 0⟩ := rfl
    rw [e]
    exact this
  · rw [if_neg hs]
    unfold okT at h
    simp only [Bool.and_eq_true, Bool.or_eq_true, beq_iff_eq] at h
    obtain ⟨n, r, hr, e1, e2, e3, hf, _⟩ := fitS_row _ _ _ _ _ _ (h.2.resolve_left hs)
    have := back_row n r hr i hf
    unfold letS
    rw [e3, ← e2] at *
    exact this

set_option maxHeartbeats 4000000 in
theorem row_fit (n : Nat) (r : PR) (hr : rowsL[n]? = some r) (i : In5) (hj : (letSL.getD n []).contains 106 = true) (hi : fitsB r i.op i.rd i.rs1 i.rs2 i.imm = true) : fitsB r i.op i.rd i.rs1 i.rs2 0 = true := by
  have hn : n < 27 := (List.getElem?_eq_some_iff.1 hr).1
  obtain ⟨op, rd, rs1, rs2, imm⟩ := i
  dsimp only at hi ⊢
  have hs : ∀ n < 27, (letSL.getD n []).contains 106 = true → n = 5 ∨ n = 16 ∨ n = 17 ∨ n = 18 := by decide
  unfold fitsB at hi ⊢
  simp only [Bool.and_eq_true, beq_iff_eq, decide_eq_true_eq] at hi ⊢
  obtain ⟨i1, i2, i3, i4, i5, i6, i7, i8, i9⟩ := hi
  rcases hs n hn hj with rfl | rfl | rfl | rfl
  all_goals
    cases hr
    refine ⟨i1, ?_, i3, i4, i5, rfl, by decide, by decide, rfl⟩
    simp only at i1
    subst i1
    unfold mayB at i2 ⊢
    simp only [Bool.and_eq_true] at i2 ⊢
    exact ⟨i2.1, i2.2.1, i2.2.2.1, i2.2.2.2.1, by decide⟩

theorem back_fit (i : In5) (s : List UInt8) (h : okT i s = true) (hs : s ≠ []) (hj : (lsT i s).contains 106 = true) : fitS (B s) i.op i.rd i.rs1 i.rs2 0 = true := by
  unfold lsT at hj
  rw [if_neg hs] at hj
  unfold okT at h
  simp only [Bool.and_eq_true, Bool.or_eq_true, beq_iff_eq] at h
  obtain ⟨n, r, hr, e1, e2, e3, hf, hall⟩ := fitS_row _ _ _ _ _ _ (h.2.resolve_left hs)
  rw [hall]
  unfold letS at hj
  rw [e3] at hj
  exact row_fit n r hr i hj hf

theorem back_upper (i : In5) (s : List UInt8) (h : okT i s = true) (hu : (117 : UInt8) ∈ lsT i s) : i.imm % 4096 = 0 := by
  have hm := okT_may i s h
  have key : formN i.op = 1 := by
    unfold lsT at hu
    by_cases hs : s = []
    · rw [if_pos hs] at hu
      rcases formN_range i.op with hf | hf | hf | hf | hf | hf | hf | hf | hf | hf <;> rw [hf] at hu ⊢ <;> first | rfl | (exfalso; revert hu; decide)
    · rw [if_neg hs] at hu
      unfold okT at h
      simp only [Bool.and_eq_true, Bool.or_eq_true, beq_iff_eq] at h
      obtain ⟨n, r, hr, e1, e2, e3, hf, hall⟩ := fitS_row _ _ _ _ _ _ (h.2.resolve_left hs)
      unfold letS at hu
      rw [e3] at hu
      have hn : n < 27 := (List.getElem?_eq_some_iff.1 hr).1
      have h8 : ∀ n < 27, (117 : UInt8) ∈ letSL.getD n [] → n = 8 := by decide
      obtain rfl := h8 n hn hu
      cases hr
      unfold fitsB at hf
      simp only [Bool.and_eq_true, beq_iff_eq] at hf
      have e := hf.1
      rw [e]
      decide
  unfold mayB at hm
  rw [key] at hm
  simp [numB] at hm
  exact hm.2.2.2

theorem back_may (i : In5) (s : List UInt8) (h : okT i s = true) : s = [] ∨ fitS (B s) i.op i.rd i.rs1 i.rs2 i.imm = true := by
  unfold okT at h
  simp only [Bool.and_eq_true, Bool.or_eq_true, beq_iff_eq] at h
  exact h.2

theorem ls_letters (i : In5) (s : List UInt8) (h : okT i s = true) : ∀ c ∈ lsT i s, c ∈ ([100, 120, 115, 116, 117, 109, 106, 105] : List UInt8) := by
  unfold lsT
  by_cases hs : s = []
  · rw [if_pos hs]
    rcases formN_range i.op with hf | hf | hf | hf | hf | hf | hf | hf | hf | hf <;> rw [hf] <;> decide
  · rw [if_neg hs]
    unfold okT at h
    simp only [Bool.and_eq_true, Bool.or_eq_true, beq_iff_eq] at h
    obtain ⟨n, r, hr, e1, e2, e3, hf, hall⟩ := fitS_row _ _ _ _ _ _ (h.2.resolve_left hs)
    unfold letS
    rw [e3]
    have hn : n < 27 := (List.getElem?_eq_some_iff.1 hr).1
    have h8 : ∀ n < 27, ∀ c ∈ letSL.getD n [], c ∈ ([100, 120, 115, 116, 117, 109, 106, 105] : List UInt8) := by decide
    exact h8 n hn

end Go.Proofs.YtdgmdkkockbkjaaGreatDoor

/- Contract of typecaseref17.take, at the operands of a text. -/
namespace Go.Proofs.YtdgmdkkockbkjaaGreatDoor
open Go.RowKit
set_option linter.unusedVariables false
set_option linter.unusedSimpArgs false

/-- What has been found of an instruction. -/
structure Wk where
  i : In5
  late : Bool
  nv : Value
  how : Int

abbrev wkO (k : Wk) : Obj := .cells #[.int .i64 k.i.op, .int .i64 k.i.rd, .int .i64 k.i.rs1, .int .i64 k.i.rs2, .int .i32 k.i.imm, .bool k.late, k.nv, .int .u32 k.how] 113

abbrev wkV (k : Wk) : Value := .agg #[.int .i64 k.i.op, .int .i64 k.i.rd, .int .i64 k.i.rs1, .int .i64 k.i.rs2, .int .i32 k.i.imm, .bool k.late, k.nv, .int .u32 k.how]

/-- All blocks that were there are as they were, but for g. -/
def Bes (g : Nat) (w w' : World) : Prop := w.heap.size ≤ w'.heap.size ∧ ∀ x, x < w.heap.size → x ≠ g → w'.heap[x]? = w.heap[x]?

theorem Bes.refl (g : Nat) (w : World) : Bes g w w := ⟨Nat.le_refl _, fun _ _ _ => rfl⟩

theorem Bes.nx {g : Nat} {w a b : World} (h : Bes g w a) (hn : Nx a b) : Bes g w b :=
  ⟨Nat.le_trans h.1 hn.size, fun x hx hg => (Below.block hn x (Nat.lt_of_lt_of_le hx h.1)).trans (h.2 x hx hg)⟩

theorem Bes.alloc {g : Nat} {w a : World} (h : Bes g w a) (o : Obj) : Bes g w (a.alloc o) := h.nx ((Nx.refl a).alloc o)

theorem Bes.set_g {g : Nat} {w a : World} (h : Bes g w a) {k : Nat} (u : Value) : Bes g w (a.setCell ⟨g, k, none⟩ u) :=
  ⟨by simpa using h.1, fun x hx hg => (Below.heap_setCell a _ u x hg).trans (h.2 x hx hg)⟩

theorem Bes.set_new {g : Nat} {w a : World} (h : Bes g w a) {p : Addr} (hp : w.heap.size ≤ p.block) (u : Value) : Bes g w (a.setCell p u) :=
  ⟨by simpa using h.1, fun x hx hg => (Below.heap_setCell a p u x (by omega)).trans (h.2 x hx hg)⟩

theorem Has.bes {g x : Nat} {w w' : World} {o : Obj} (h : Has w x o) (hb : Bes g w w') (hx : x ≠ g) : Has w' x o := (hb.2 x h.lt hx).trans h

/-- What comes of take: no fault, and what has been found now. -/
def RetTake (g : Nat) (k : Wk) (w0 w : World) (e : Ending) (w' : World) : Prop := e = .returned fltV ∧ Nx w0 w' ∧ Bes g w w' ∧ Has w' g (wkO k)

set_option maxHeartbeats 4000000 in
set_option maxRecDepth 100000 in
theorem take_d (k : Wk) (ln cl rg : Int) (An : Option Addr) (mn cn : Nat) (g : Nat) (w0 w : World) (hn0 : Nx w0 w) (hg : w0.heap.size ≤ g) (hH : Has w g (wkO k)) :
    Calls Tryz.prog 46 #[.int .u8 100, argV 1 ln cl rg (.slice An mn cn), .pointer (some ⟨g, 0, none⟩), .slice none 0 0] w (RetTake g { k with i := { k.i with rd := rg } } w0 w) := by
  have HH := Lib.hid hH
  have HN := Lib.hid hn0
  have HG := Lib.hid hg
  have hgt := hH.lt
  have hgt1 : g < w.heap.size + 1 := by omega
  have hgt2 : g < w.heap.size + 1 + 1 := by omega
  have hgt3 : g < w.heap.size + 1 + 1 + 1 := by omega
  have hgn0 : g ≠ w.heap.size := by omega
  have hgn1 : g ≠ w.heap.size + 1 := by omega
  have hgn2 : g ≠ w.heap.size + 1 + 1 := by omega
  obtain ⟨⟨op, rd, rs1, rs2, imm⟩, late, nv, how⟩ := k
  dsimp only at *
  have gc0 := hH.cell 0 _ rfl
  have gf0 := hH.free 0
  have gc1 := hH.cell 1 _ rfl
  have gf1 := hH.free 1
  have gc2 := hH.cell 2 _ rfl
  have gf2 := hH.free 2
  have gc3 := hH.cell 3 _ rfl
  have gf3 := hH.free 3
  have gc4 := hH.cell 4 _ rfl
  have gf4 := hH.free 4
  have gc5 := hH.cell 5 _ rfl
  have gf5 := hH.free 5
  have gc6 := hH.cell 6 _ rfl
  have gf6 := hH.free 6
  have gc7 := hH.cell 7 _ rfl
  have gf7 := hH.free 7
  clear hH hn0 hg
  go_enter Tryz.func46, Tryz.ntmps46
  go_wp2
  have HP := Lib.hid (HH.out.put 1 (.int .i64 rg))
  refine bodyPost_ret (v := fltV) (by simp [results, Tryz.results46, go_sem]) rfl ?_
  exact ⟨rfl, by repeat (with_reducible first | exact HN.out | refine Nx.setCell ?_ HG.out _ | refine Nx.alloc ?_ _ | refine Nx.setCell ?_ hle1 _ | refine Nx.setCell ?_ hle2 _), by repeat (with_reducible first | exact Bes.refl _ _ | refine Bes.alloc ?_ _ | refine Bes.set_g ?_ _ | refine Bes.set_new ?_ hwl1 _ | refine Bes.set_new ?_ hwl2 _), by (repeat (with_reducible first | refine Has.alloc ?_ _ | refine Has.far ?_ hgn0 _ | refine Has.far ?_ hgn1 _ | refine Has.far ?_ hgn2 _)); exact HP.out⟩

set_option maxHeartbeats 4000000 in
set_option maxRecDepth 100000 in
theorem take_x (k : Wk) (ln cl rg : Int) (An : Option Addr) (mn cn : Nat) (g : Nat) (w0 w : World) (hn0 : Nx w0 w) (hg : w0.heap.size ≤ g) (hH : Has w g (wkO k)) :
    Calls Tryz.prog 46 #[.int .u8 120, argV 1 ln cl rg (.slice An mn cn), .pointer (some ⟨g, 0, none⟩), .slice none 0 0] w (RetTake g { k with i := { k.i with rd := rg, rs1 := rg } } w0 w) := by
  have HH := Lib.hid hH
  have HN := Lib.hid hn0
  have HG := Lib.hid hg
  have hgt := hH.lt
  have hgt1 : g < w.heap.size + 1 := by omega
  have hgt2 : g < w.heap.size + 1 + 1 := by omega
  have hgt3 : g < w.heap.size + 1 + 1 + 1 := by omega
  have hgn0 : g ≠ w.heap.size := by omega
  have hgn1 : g ≠ w.heap.size + 1 := by omega
  have hgn2 : g ≠ w.heap.size + 1 + 1 := by omega
  obtain ⟨⟨op, rd, rs1, rs2, imm⟩, late, nv, how⟩ := k
  dsimp only at *
  have gc0 := hH.cell 0 _ rfl
  have gf0 := hH.free 0
  have gc1 := hH.cell 1 _ rfl
  have gf1 := hH.free 1
  have gc2 := hH.cell 2 _ rfl
  have gf2 := hH.free 2
  have gc3 := hH.cell 3 _ rfl
  have gf3 := hH.free 3
  have gc4 := hH.cell 4 _ rfl
  have gf4 := hH.free 4
  have gc5 := hH.cell 5 _ rfl
  have gf5 := hH.free 5
  have gc6 := hH.cell 6 _ rfl
  have gf6 := hH.free 6
  have gc7 := hH.cell 7 _ rfl
  have gf7 := hH.free 7
  clear hH hn0 hg
  go_enter Tryz.func46, Tryz.ntmps46
  go_wp2
  have HP := Lib.hid ((HH.out.put 1 (.int .i64 rg)).put 2 (.int .i64 rg))
  refine bodyPost_ret (v := fltV) (by simp [results, Tryz.results46, go_sem]) rfl ?_
  exact ⟨rfl, by repeat (with_reducible first | exact HN.out | refine Nx.setCell ?_ HG.out _ | refine Nx.alloc ?_ _ | refine Nx.setCell ?_ hle1 _ | refine Nx.setCell ?_ hle2 _), by repeat (with_reducible first | exact Bes.refl _ _ | refine Bes.alloc ?_ _ | refine Bes.set_g ?_ _ | refine Bes.set_new ?_ hwl1 _ | refine Bes.set_new ?_ hwl2 _), by (repeat (with_reducible first | refine Has.alloc ?_ _ | refine Has.far ?_ hgn0 _ | refine Has.far ?_ hgn1 _ | refine Has.far ?_ hgn2 _)); exact HP.out⟩

set_option maxHeartbeats 4000000 in
set_option maxRecDepth 100000 in
theorem take_s (k : Wk) (ln cl rg : Int) (An : Option Addr) (mn cn : Nat) (g : Nat) (w0 w : World) (hn0 : Nx w0 w) (hg : w0.heap.size ≤ g) (hH : Has w g (wkO k)) :
    Calls Tryz.prog 46 #[.int .u8 115, argV 1 ln cl rg (.slice An mn cn), .pointer (some ⟨g, 0, none⟩), .slice none 0 0] w (RetTake g { k with i := { k.i with rs1 := rg } } w0 w) := by
  have HH := Lib.hid hH
  have HN := Lib.hid hn0
  have HG := Lib.hid hg
  have hgt := hH.lt
  have hgt1 : g < w.heap.size + 1 := by omega
  have hgt2 : g < w.heap.size + 1 + 1 := by omega
  have hgt3 : g < w.heap.size + 1 + 1 + 1 := by omega
  have hgn0 : g ≠ w.heap.size := by omega
  have hgn1 : g ≠ w.heap.size + 1 := by omega
  have hgn2 : g ≠ w.heap.size + 1 + 1 := by omega
  obtain ⟨⟨op, rd, rs1, rs2, imm⟩, late, nv, how⟩ := k
  dsimp only at *
  have gc0 := hH.cell 0 _ rfl
  have gf0 := hH.free 0
  have gc1 := hH.cell 1 _ rfl
  have gf1 := hH.free 1
  have gc2 := hH.cell 2 _ rfl
  have gf2 := hH.free 2
  have gc3 := hH.cell 3 _ rfl
  have gf3 := hH.free 3
  have gc4 := hH.cell 4 _ rfl
  have gf4 := hH.free 4
  have gc5 := hH.cell 5 _ rfl
  have gf5 := hH.free 5
  have gc6 := hH.cell 6 _ rfl
  have gf6 := hH.free 6
  have gc7 := hH.cell 7 _ rfl
  have gf7 := hH.free 7
  clear hH hn0 hg
  go_enter Tryz.func46, Tryz.ntmps46
  go_wp2
  have HP := Lib.hid (HH.out.put 2 (.int .i64 rg))
  refine bodyPost_ret (v := fltV) (by simp [results, Tryz.results46, go_sem]) rfl ?_
  exact ⟨rfl, by repeat (with_reducible first | exact HN.out | refine Nx.setCell ?_ HG.out _ | refine Nx.alloc ?_ _ | refine Nx.setCell ?_ hle1 _ | refine Nx.setCell ?_ hle2 _), by repeat (with_reducible first | exact Bes.refl _ _ | refine Bes.alloc ?_ _ | refine Bes.set_g ?_ _ | refine Bes.set_new ?_ hwl1 _ | refine Bes.set_new ?_ hwl2 _), by (repeat (with_reducible first | refine Has.alloc ?_ _ | refine Has.far ?_ hgn0 _ | refine Has.far ?_ hgn1 _ | refine Has.far ?_ hgn2 _)); exact HP.out⟩

set_option maxHeartbeats 4000000 in
set_option maxRecDepth 100000 in
theorem take_t (k : Wk) (ln cl rg : Int) (An : Option Addr) (mn cn : Nat) (g : Nat) (w0 w : World) (hn0 : Nx w0 w) (hg : w0.heap.size ≤ g) (hH : Has w g (wkO k)) :
    Calls Tryz.prog 46 #[.int .u8 116, argV 1 ln cl rg (.slice An mn cn), .pointer (some ⟨g, 0, none⟩), .slice none 0 0] w (RetTake g { k with i := { k.i with rs2 := rg } } w0 w) := by
  have HH := Lib.hid hH
  have HN := Lib.hid hn0
  have HG := Lib.hid hg
  have hgt := hH.lt
  have hgt1 : g < w.heap.size + 1 := by omega
  have hgt2 : g < w.heap.size + 1 + 1 := by omega
  have hgt3 : g < w.heap.size + 1 + 1 + 1 := by omega
  have hgn0 : g ≠ w.heap.size := by omega
  have hgn1 : g ≠ w.heap.size + 1 := by omega
  have hgn2 : g ≠ w.heap.size + 1 + 1 := by omega
  obtain ⟨⟨op, rd, rs1, rs2, imm⟩, late, nv, how⟩ := k
  dsimp only at *
  have gc0 := hH.cell 0 _ rfl
  have gf0 := hH.free 0
  have gc1 := hH.cell 1 _ rfl
  have gf1 := hH.free 1
  have gc2 := hH.cell 2 _ rfl
  have gf2 := hH.free 2
  have gc3 := hH.cell 3 _ rfl
  have gf3 := hH.free 3
  have gc4 := hH.cell 4 _ rfl
  have gf4 := hH.free 4
  have gc5 := hH.cell 5 _ rfl
  have gf5 := hH.free 5
  have gc6 := hH.cell 6 _ rfl
  have gf6 := hH.free 6
  have gc7 := hH.cell 7 _ rfl
  have gf7 := hH.free 7
  clear hH hn0 hg
  go_enter Tryz.func46, Tryz.ntmps46
  go_wp2
  have HP := Lib.hid (HH.out.put 3 (.int .i64 rg))
  refine bodyPost_ret (v := fltV) (by simp [results, Tryz.results46, go_sem]) rfl ?_
  exact ⟨rfl, by repeat (with_reducible first | exact HN.out | refine Nx.setCell ?_ HG.out _ | refine Nx.alloc ?_ _ | refine Nx.setCell ?_ hle1 _ | refine Nx.setCell ?_ hle2 _), by repeat (with_reducible first | exact Bes.refl _ _ | refine Bes.alloc ?_ _ | refine Bes.set_g ?_ _ | refine Bes.set_new ?_ hwl1 _ | refine Bes.set_new ?_ hwl2 _), by (repeat (with_reducible first | refine Has.alloc ?_ _ | refine Has.far ?_ hgn0 _ | refine Has.far ?_ hgn1 _ | refine Has.far ?_ hgn2 _)); exact HP.out⟩

set_option maxHeartbeats 4000000 in
set_option maxRecDepth 100000 in
theorem take_j (k : Wk) (ln cl : Int) (An : Option Addr) (mn cn : Nat) (g : Nat) (w0 w : World) (hn0 : Nx w0 w) (hg : w0.heap.size ≤ g) (hH : Has w g (wkO k)) :
    Calls Tryz.prog 46 #[.int .u8 106, argV 2 ln cl 0 (.slice An mn cn), .pointer (some ⟨g, 0, none⟩), .slice none 0 0] w (RetTake g { k with late := true, nv := .slice An mn cn, how := 2 } w0 w) := by
  have HH := Lib.hid hH
  have HN := Lib.hid hn0
  have HG := Lib.hid hg
  have hgt := hH.lt
  have hgt1 : g < w.heap.size + 1 := by omega
  have hgt2 : g < w.heap.size + 1 + 1 := by omega
  have hgt3 : g < w.heap.size + 1 + 1 + 1 := by omega
  have hgn0 : g ≠ w.heap.size := by omega
  have hgn1 : g ≠ w.heap.size + 1 := by omega
  have hgn2 : g ≠ w.heap.size + 1 + 1 := by omega
  obtain ⟨⟨op, rd, rs1, rs2, imm⟩, late, nv, how⟩ := k
  dsimp only at *
  have gc0 := hH.cell 0 _ rfl
  have gf0 := hH.free 0
  have gc1 := hH.cell 1 _ rfl
  have gf1 := hH.free 1
  have gc2 := hH.cell 2 _ rfl
  have gf2 := hH.free 2
  have gc3 := hH.cell 3 _ rfl
  have gf3 := hH.free 3
  have gc4 := hH.cell 4 _ rfl
  have gf4 := hH.free 4
  have gc5 := hH.cell 5 _ rfl
  have gf5 := hH.free 5
  have gc6 := hH.cell 6 _ rfl
  have gf6 := hH.free 6
  have gc7 := hH.cell 7 _ rfl
  have gf7 := hH.free 7
  clear hH hn0 hg
  go_enter Tryz.func46, Tryz.ntmps46
  go_wp2
  have HP := Lib.hid (((HH.out.put 5 (.bool true)).put 6 (.slice An mn cn)).put 7 (.int .u32 2))
  refine bodyPost_ret (v := fltV) (by simp [results, Tryz.results46, go_sem]) rfl ?_
  exact ⟨rfl, by repeat (with_reducible first | exact HN.out | refine Nx.setCell ?_ HG.out _ | refine Nx.alloc ?_ _ | refine Nx.setCell ?_ hle1 _ | refine Nx.setCell ?_ hle2 _), by repeat (with_reducible first | exact Bes.refl _ _ | refine Bes.alloc ?_ _ | refine Bes.set_g ?_ _ | refine Bes.set_new ?_ hwl1 _ | refine Bes.set_new ?_ hwl2 _), by (repeat (with_reducible first | refine Has.alloc ?_ _ | refine Has.far ?_ hgn0 _ | refine Has.far ?_ hgn1 _ | refine Has.far ?_ hgn2 _)); exact HP.out⟩

set_option maxHeartbeats 4000000 in
set_option maxRecDepth 100000 in
theorem take_i (k : Wk) (ln cl : Int) (An : Option Addr) (mn cn : Nat) (g : Nat) (w0 w : World) (hn0 : Nx w0 w) (hg : w0.heap.size ≤ g) (hH : Has w g (wkO k)) (x : Int) (hV : ∀ w', Nx w0 w' → Calls Tryz.prog 9 #[.slice An mn cn, .slice none 0 0, .int .u32 0, .bool true] w' (RetVal (x, false) w')) :
    Calls Tryz.prog 46 #[.int .u8 105, argV 2 ln cl 0 (.slice An mn cn), .pointer (some ⟨g, 0, none⟩), .slice none 0 0] w (RetTake g { k with i := { k.i with imm := wrap32 x } } w0 w) := by
  have HH := Lib.hid hH
  have HN := Lib.hid hn0
  have HG := Lib.hid hg
  have hgt := hH.lt
  have hgt1 : g < w.heap.size + 1 := by omega
  have hgt2 : g < w.heap.size + 1 + 1 := by omega
  have hgt3 : g < w.heap.size + 1 + 1 + 1 := by omega
  have hgn0 : g ≠ w.heap.size := by omega
  have hgn1 : g ≠ w.heap.size + 1 := by omega
  have hgn2 : g ≠ w.heap.size + 1 + 1 := by omega
  obtain ⟨⟨op, rd, rs1, rs2, imm⟩, late, nv, how⟩ := k
  dsimp only at *
  have gc0 := hH.cell 0 _ rfl
  have gf0 := hH.free 0
  have gc1 := hH.cell 1 _ rfl
  have gf1 := hH.free 1
  have gc2 := hH.cell 2 _ rfl
  have gf2 := hH.free 2
  have gc3 := hH.cell 3 _ rfl
  have gf3 := hH.free 3
  have gc4 := hH.cell 4 _ rfl
  have gf4 := hH.free 4
  have gc5 := hH.cell 5 _ rfl
  have gf5 := hH.free 5
  have gc6 := hH.cell 6 _ rfl
  have gf6 := hH.free 6
  have gc7 := hH.cell 7 _ rfl
  have gf7 := hH.free 7
  have CV := Lib.hid hV
  clear hH hn0 hg hV
  go_enter Tryz.func46, Tryz.ntmps46
  go_wp2_with fail
  refine (CV.out _ (by repeat (with_reducible first | exact HN.out | refine Nx.setCell ?_ HG.out _ | refine Nx.alloc ?_ _ | refine Nx.setCell ?_ hle1 _ | refine Nx.setCell ?_ hle2 _))).mono ?_
  rintro e w2 ⟨rfl, hn2⟩
  have HB := Lib.hid (Bes.nx (g := g) (w := w) (by repeat (with_reducible first | exact Bes.refl _ _ | refine Bes.alloc ?_ _ | refine Bes.set_g ?_ _ | refine Bes.set_new ?_ hwl1 _ | refine Bes.set_new ?_ hwl2 _)) hn2)
  have HN2 := Lib.hid (Nx.trans (a := w0) (by repeat (with_reducible first | exact HN.out | refine Nx.setCell ?_ HG.out _ | refine Nx.alloc ?_ _ | refine Nx.setCell ?_ hle1 _ | refine Nx.setCell ?_ hle2 _)) hn2)
  have hz2 : w.heap.size + 1 + 1 ≤ w2.heap.size := by have := hn2.size; simpa using this
  have HP : Hid (Has w2 g (wkO ⟨⟨op, rd, rs1, rs2, imm⟩, late, nv, how⟩)) := Lib.hid (Has.nx (by (repeat (with_reducible first | refine Has.alloc ?_ _ | refine Has.far ?_ hgn0 _ | refine Has.far ?_ hgn1 _ | refine Has.far ?_ hgn2 _)); exact HH.out) hn2)
  have HF : Hid (Has w2 (w.heap.size + 1) fltO) := Lib.hid (Has.nx (Has.at_ _ _ (by simp)) hn2)
  clear hn2
  clear gc0 gf0 gc1 gf1 gc2 gf2 gc3 gf3 gc4 gf4 gc5 gf5 gc6 gf6 gc7 gf7 hgt hgt1 hgt2 hgt3 hgn0 hgn2
  have hgk := hgn1
  clear hgn1
  have hle1 : w0.heap.size ≤ w.heap.size + 1 := by have := HN.out.size; omega
  have hwl1 : w.heap.size ≤ w.heap.size + 1 := by omega
  have gc0 := HP.out.cell 0 _ rfl
  have gf0 := HP.out.free 0
  have gc1 := HP.out.cell 1 _ rfl
  have gf1 := HP.out.free 1
  have gc2 := HP.out.cell 2 _ rfl
  have gf2 := HP.out.free 2
  have gc3 := HP.out.cell 3 _ rfl
  have gf3 := HP.out.free 3
  have gc4 := HP.out.cell 4 _ rfl
  have gf4 := HP.out.free 4
  have gc5 := HP.out.cell 5 _ rfl
  have gf5 := HP.out.free 5
  have gc6 := HP.out.cell 6 _ rfl
  have gf6 := HP.out.free 6
  have gc7 := HP.out.cell 7 _ rfl
  have gf7 := HP.out.free 7
  have fc0 := HF.out.cell 0 _ rfl
  have ff0 := HF.out.free 0
  have fc1 := HF.out.cell 1 _ rfl
  have ff1 := HF.out.free 1
  have fc2 := HF.out.cell 2 _ rfl
  have ff2 := HF.out.free 2
  have hgt := HP.out.lt
  have hft := HF.out.lt
  have hgt1 : g < w2.heap.size + 1 := by omega
  have hgt2 : g < w2.heap.size + 1 + 1 := by omega
  have hgn0 : g ≠ w2.heap.size := by omega
  have hgn1 : g ≠ w2.heap.size + 1 := by omega
  have hft1 : w.heap.size + 1 < w2.heap.size + 1 := by omega
  have hft2 : w.heap.size + 1 < w2.heap.size + 1 + 1 := by omega
  have hfn0 : w.heap.size + 1 ≠ w2.heap.size := by omega
  have hfn1 : w.heap.size + 1 ≠ w2.heap.size + 1 := by omega
  dsimp only
  go_wp2
  have HP2 := Lib.hid (HP.out.put 4 (.int .i32 (wrap32 x)))
  refine bodyPost_ret (v := fltV) (by simp [results, Tryz.results46, go_sem, fc0, fc1, fc2, ff0, ff1, ff2, hft, hft1, hft2, hfn0, hfn1]) rfl ?_
  have hgf : g ≠ w.heap.size + 1 := hgk
  exact ⟨rfl, by repeat (with_reducible first | exact HN2.out | refine Nx.setCell ?_ HG.out _ | refine Nx.setCell ?_ hle1 _ | refine Nx.alloc ?_ _), by repeat (with_reducible first | exact HB.out | refine Bes.alloc ?_ _ | refine Bes.set_g ?_ _ | refine Bes.set_new ?_ hwl1 _), by (repeat (with_reducible first | refine Has.alloc ?_ _ | refine Has.far ?_ hgf _)); exact HP2.out⟩

set_option maxHeartbeats 4000000 in
set_option maxRecDepth 100000 in
theorem take_m (k : Wk) (ln cl rg : Int) (An : Option Addr) (mn cn : Nat) (g : Nat) (w0 w : World) (hn0 : Nx w0 w) (hg : w0.heap.size ≤ g) (hH : Has w g (wkO k)) (x : Int) (hm1 : 1 ≤ mn) (hV : ∀ w', Nx w0 w' → Calls Tryz.prog 9 #[.slice An mn cn, .slice none 0 0, .int .u32 0, .bool true] w' (RetVal (x, false) w')) :
    Calls Tryz.prog 46 #[.int .u8 109, argV 3 ln cl rg (.slice An mn cn), .pointer (some ⟨g, 0, none⟩), .slice none 0 0] w (RetTake g { k with i := { k.i with rs1 := rg, imm := wrap32 x } } w0 w) := by
  have HH := Lib.hid hH
  have HN := Lib.hid hn0
  have HG := Lib.hid hg
  have hgt := hH.lt
  have hgt1 : g < w.heap.size + 1 := by omega
  have hgt2 : g < w.heap.size + 1 + 1 := by omega
  have hgt3 : g < w.heap.size + 1 + 1 + 1 := by omega
  have hgn0 : g ≠ w.heap.size := by omega
  have hgn1 : g ≠ w.heap.size + 1 := by omega
  have hgn2 : g ≠ w.heap.size + 1 + 1 := by omega
  obtain ⟨⟨op, rd, rs1, rs2, imm⟩, late, nv, how⟩ := k
  dsimp only at *
  have gc0 := hH.cell 0 _ rfl
  have gf0 := hH.free 0
  have gc1 := hH.cell 1 _ rfl
  have gf1 := hH.free 1
  have gc2 := hH.cell 2 _ rfl
  have gf2 := hH.free 2
  have gc3 := hH.cell 3 _ rfl
  have gf3 := hH.free 3
  have gc4 := hH.cell 4 _ rfl
  have gf4 := hH.free 4
  have gc5 := hH.cell 5 _ rfl
  have gf5 := hH.free 5
  have gc6 := hH.cell 6 _ rfl
  have gf6 := hH.free 6
  have gc7 := hH.cell 7 _ rfl
  have gf7 := hH.free 7
  have CV := Lib.hid hV
  clear hH hn0 hg hV
  go_enter Tryz.func46, Tryz.ntmps46
  have hmn : (((mn : Nat) : Int) == 0) = false := by rw [beq_eq_false_iff_ne]; omega
  go_wp2_with fail
  refine (CV.out _ (by repeat (with_reducible first | exact HN.out | refine Nx.setCell ?_ HG.out _ | refine Nx.alloc ?_ _ | refine Nx.setCell ?_ hle1 _ | refine Nx.setCell ?_ hle2 _))).mono ?_
  rintro e w2 ⟨rfl, hn2⟩
  have HB := Lib.hid (Bes.nx (g := g) (w := w) (by repeat (with_reducible first | exact Bes.refl _ _ | refine Bes.alloc ?_ _ | refine Bes.set_g ?_ _ | refine Bes.set_new ?_ hwl1 _ | refine Bes.set_new ?_ hwl2 _)) hn2)
  have HN2 := Lib.hid (Nx.trans (a := w0) (by repeat (with_reducible first | exact HN.out | refine Nx.setCell ?_ HG.out _ | refine Nx.alloc ?_ _ | refine Nx.setCell ?_ hle1 _ | refine Nx.setCell ?_ hle2 _)) hn2)
  have hz2 : w.heap.size + 1 + 1 ≤ w2.heap.size := by have := hn2.size; simpa using this
  have HP : Hid (Has w2 g (wkO ⟨⟨op, rd, rg, rs2, imm⟩, late, nv, how⟩)) := Lib.hid (Has.nx (by (repeat (with_reducible first | refine Has.alloc ?_ _ | refine Has.far ?_ hgn0 _ | refine Has.far ?_ hgn1 _ | refine Has.far ?_ hgn2 _)); exact (HH.out.put 2 (.int .i64 rg))) hn2)
  have HF : Hid (Has w2 (w.heap.size + 1) fltO) := Lib.hid (Has.nx (Has.at_ _ _ (by simp)) hn2)
  clear hn2
  clear gc0 gf0 gc1 gf1 gc2 gf2 gc3 gf3 gc4 gf4 gc5 gf5 gc6 gf6 gc7 gf7 hgt hgt1 hgt2 hgt3 hgn0 hgn2
  have hgk := hgn1
  clear hgn1
  have hle1 : w0.heap.size ≤ w.heap.size + 1 := by have := HN.out.size; omega
  have hwl1 : w.heap.size ≤ w.heap.size + 1 := by omega
  have gc0 := HP.out.cell 0 _ rfl
  have gf0 := HP.out.free 0
  have gc1 := HP.out.cell 1 _ rfl
  have gf1 := HP.out.free 1
  have gc2 := HP.out.cell 2 _ rfl
  have gf2 := HP.out.free 2
  have gc3 := HP.out.cell 3 _ rfl
  have gf3 := HP.out.free 3
  have gc4 := HP.out.cell 4 _ rfl
  have gf4 := HP.out.free 4
  have gc5 := HP.out.cell 5 _ rfl
  have gf5 := HP.out.free 5
  have gc6 := HP.out.cell 6 _ rfl
  have gf6 := HP.out.free 6
  have gc7 := HP.out.cell 7 _ rfl
  have gf7 := HP.out.free 7
  have fc0 := HF.out.cell 0 _ rfl
  have ff0 := HF.out.free 0
  have fc1 := HF.out.cell 1 _ rfl
  have ff1 := HF.out.free 1
  have fc2 := HF.out.cell 2 _ rfl
  have ff2 := HF.out.free 2
  have hgt := HP.out.lt
  have hft := HF.out.lt
  have hgt1 : g < w2.heap.size + 1 := by omega
  have hgt2 : g < w2.heap.size + 1 + 1 := by omega
  have hgn0 : g ≠ w2.heap.size := by omega
  have hgn1 : g ≠ w2.heap.size + 1 := by omega
  have hft1 : w.heap.size + 1 < w2.heap.size + 1 := by omega
  have hft2 : w.heap.size + 1 < w2.heap.size + 1 + 1 := by omega
  have hfn0 : w.heap.size + 1 ≠ w2.heap.size := by omega
  have hfn1 : w.heap.size + 1 ≠ w2.heap.size + 1 := by omega
  dsimp only
  go_wp2
  have HP2 := Lib.hid (HP.out.put 4 (.int .i32 (wrap32 x)))
  refine bodyPost_ret (v := fltV) (by simp [results, Tryz.results46, go_sem, fc0, fc1, fc2, ff0, ff1, ff2, hft, hft1, hft2, hfn0, hfn1]) rfl ?_
  have hgf : g ≠ w.heap.size + 1 := hgk
  exact ⟨rfl, by repeat (with_reducible first | exact HN2.out | refine Nx.setCell ?_ HG.out _ | refine Nx.setCell ?_ hle1 _ | refine Nx.alloc ?_ _), by repeat (with_reducible first | exact HB.out | refine Bes.alloc ?_ _ | refine Bes.set_g ?_ _ | refine Bes.set_new ?_ hwl1 _), by (repeat (with_reducible first | refine Has.alloc ?_ _ | refine Has.far ?_ hgf _)); exact HP2.out⟩

set_option maxHeartbeats 4000000 in
set_option maxRecDepth 100000 in
theorem take_u (k : Wk) (ln cl : Int) (An : Option Addr) (mn cn : Nat) (g : Nat) (w0 w : World) (hn0 : Nx w0 w) (hg : w0.heap.size ≤ g) (hH : Has w g (wkO k)) (x : Int) (hx0 : 0 ≤ x) (hx1 : x < 1048576) (hV : ∀ w', Nx w0 w' → Calls Tryz.prog 9 #[.slice An mn cn, .slice none 0 0, .int .u32 0, .bool true] w' (RetVal (x, false) w')) :
    Calls Tryz.prog 46 #[.int .u8 117, argV 2 ln cl 0 (.slice An mn cn), .pointer (some ⟨g, 0, none⟩), .slice none 0 0] w (RetTake g { k with i := { k.i with imm := wrap32 (x * 4096) }, how := 1 } w0 w) := by
  have HH := Lib.hid hH
  have HN := Lib.hid hn0
  have HG := Lib.hid hg
  have hgt := hH.lt
  have hgt1 : g < w.heap.size + 1 := by omega
  have hgt2 : g < w.heap.size + 1 + 1 := by omega
  have hgt3 : g < w.heap.size + 1 + 1 + 1 := by omega
  have hgn0 : g ≠ w.heap.size := by omega
  have hgn1 : g ≠ w.heap.size + 1 := by omega
  have hgn2 : g ≠ w.heap.size + 1 + 1 := by omega
  obtain ⟨⟨op, rd, rs1, rs2, imm⟩, late, nv, how⟩ := k
  dsimp only at *
  have gc0 := hH.cell 0 _ rfl
  have gf0 := hH.free 0
  have gc1 := hH.cell 1 _ rfl
  have gf1 := hH.free 1
  have gc2 := hH.cell 2 _ rfl
  have gf2 := hH.free 2
  have gc3 := hH.cell 3 _ rfl
  have gf3 := hH.free 3
  have gc4 := hH.cell 4 _ rfl
  have gf4 := hH.free 4
  have gc5 := hH.cell 5 _ rfl
  have gf5 := hH.free 5
  have gc6 := hH.cell 6 _ rfl
  have gf6 := hH.free 6
  have gc7 := hH.cell 7 _ rfl
  have gf7 := hH.free 7
  have CV := Lib.hid hV
  clear hH hn0 hg hV
  go_enter Tryz.func46, Tryz.ntmps46
  go_wp2_with fail
  refine (CV.out _ (by repeat (with_reducible first | exact HN.out | refine Nx.setCell ?_ HG.out _ | refine Nx.alloc ?_ _ | refine Nx.setCell ?_ hle1 _ | refine Nx.setCell ?_ hle2 _))).mono ?_
  rintro e w2 ⟨rfl, hn2⟩
  have HB := Lib.hid (Bes.nx (g := g) (w := w) (by repeat (with_reducible first | exact Bes.refl _ _ | refine Bes.alloc ?_ _ | refine Bes.set_g ?_ _ | refine Bes.set_new ?_ hwl1 _ | refine Bes.set_new ?_ hwl2 _)) hn2)
  have HN2 := Lib.hid (Nx.trans (a := w0) (by repeat (with_reducible first | exact HN.out | refine Nx.setCell ?_ HG.out _ | refine Nx.alloc ?_ _ | refine Nx.setCell ?_ hle1 _ | refine Nx.setCell ?_ hle2 _)) hn2)
  have hz2 : w.heap.size + 1 + 1 ≤ w2.heap.size := by have := hn2.size; simpa using this
  have HP : Hid (Has w2 g (wkO ⟨⟨op, rd, rs1, rs2, imm⟩, late, nv, how⟩)) := Lib.hid (Has.nx (by (repeat (with_reducible first | refine Has.alloc ?_ _ | refine Has.far ?_ hgn0 _ | refine Has.far ?_ hgn1 _ | refine Has.far ?_ hgn2 _)); exact HH.out) hn2)
  have HF : Hid (Has w2 (w.heap.size + 1) fltO) := Lib.hid (Has.nx (Has.at_ _ _ (by simp)) hn2)
  clear hn2
  clear gc0 gf0 gc1 gf1 gc2 gf2 gc3 gf3 gc4 gf4 gc5 gf5 gc6 gf6 gc7 gf7 hgt hgt1 hgt2 hgt3 hgn0 hgn2
  have hgk := hgn1
  clear hgn1
  have hle1 : w0.heap.size ≤ w.heap.size + 1 := by have := HN.out.size; omega
  have hwl1 : w.heap.size ≤ w.heap.size + 1 := by omega
  have gc0 := HP.out.cell 0 _ rfl
  have gf0 := HP.out.free 0
  have gc1 := HP.out.cell 1 _ rfl
  have gf1 := HP.out.free 1
  have gc2 := HP.out.cell 2 _ rfl
  have gf2 := HP.out.free 2
  have gc3 := HP.out.cell 3 _ rfl
  have gf3 := HP.out.free 3
  have gc4 := HP.out.cell 4 _ rfl
  have gf4 := HP.out.free 4
  have gc5 := HP.out.cell 5 _ rfl
  have gf5 := HP.out.free 5
  have gc6 := HP.out.cell 6 _ rfl
  have gf6 := HP.out.free 6
  have gc7 := HP.out.cell 7 _ rfl
  have gf7 := HP.out.free 7
  have fc0 := HF.out.cell 0 _ rfl
  have ff0 := HF.out.free 0
  have fc1 := HF.out.cell 1 _ rfl
  have ff1 := HF.out.free 1
  have fc2 := HF.out.cell 2 _ rfl
  have ff2 := HF.out.free 2
  have hgt := HP.out.lt
  have hft := HF.out.lt
  have hgt1 : g < w2.heap.size + 1 := by omega
  have hgt2 : g < w2.heap.size + 1 + 1 := by omega
  have hgn0 : g ≠ w2.heap.size := by omega
  have hgn1 : g ≠ w2.heap.size + 1 := by omega
  have hft1 : w.heap.size + 1 < w2.heap.size + 1 := by omega
  have hft2 : w.heap.size + 1 < w2.heap.size + 1 + 1 := by omega
  have hfn0 : w.heap.size + 1 ≠ w2.heap.size := by omega
  have hfn1 : w.heap.size + 1 ≠ w2.heap.size + 1 := by omega
  dsimp only
  go_wp2
  have HP2 := Lib.hid ((HP.out.put 7 (.int .u32 1)).put 4 (.int .i32 (wrap32 (x * 4096))))
  refine bodyPost_ret (v := fltV) (by simp [results, Tryz.results46, go_sem, fc0, fc1, fc2, ff0, ff1, ff2, hft, hft1, hft2, hfn0, hfn1]) rfl ?_
  have hgf : g ≠ w.heap.size + 1 := hgk
  exact ⟨rfl, by repeat (with_reducible first | exact HN2.out | refine Nx.setCell ?_ HG.out _ | refine Nx.setCell ?_ hle1 _ | refine Nx.alloc ?_ _), by repeat (with_reducible first | exact HB.out | refine Bes.alloc ?_ _ | refine Bes.set_g ?_ _ | refine Bes.set_new ?_ hwl1 _), by (repeat (with_reducible first | refine Has.alloc ?_ _ | refine Has.far ?_ hgf _)); exact HP2.out⟩

/-- What has been found behind an operand of a letter. -/
def updW (i : In5) (nv : Value) (k : Wk) (c : UInt8) : Wk :=
  ⟨upd i k.i c, if c = 106 then true else k.late, if c = 106 then nv else k.nv, if c = 106 then 2 else if c = 117 then 1 else k.how⟩

theorem wrap_back (x : Int) (h0 : -2147483648 ≤ x) (h1 : x ≤ 2147483647) : wrap32 (x % 4294967296) = x := by
  unfold wrap32
  omega

theorem take_any (i : In5) (c : UInt8) (hc : c ∈ ([100, 120, 115, 116, 117, 109, 106, 105] : List UInt8)) (k : Wk) (ln cl : Int) (nv : Value) (ns : List Nod) (g : Nat) (w0 w : World) (hn0 : Nx w0 w) (hg : w0.heap.size ≤ g) (hH : Has w g (wkO k))
    (hN : Nods w0 nv ns) (hns : ns.map nodK = nodO (opO c i)) (h0 : -2147483648 ≤ i.imm) (h1 : i.imm ≤ 2147483647) (hu : c = 117 → i.imm % 4096 = 0) :
    Calls Tryz.prog 46 #[.int .u8 c.toNat, argV (kindO (opO c i)) ln cl (rgO (opO c i)) nv, .pointer (some ⟨g, 0, none⟩), .slice none 0 0] w (RetTake g (updW i nv k c) w0 w) := by
  obtain ⟨A, cn, rfl, _, _, _⟩ := hN.form
  have CV : ∀ v : Int, -4294967296 < v → v < 4294967296 → ns.map nodK = numN v → ∀ w', Nx w0 w' → Calls Tryz.prog 9 #[.slice A ns.length cn, .slice none 0 0, .int .u32 0, .bool true] w' (RetVal (v % 4294967296, false) w') := fun v hv0 hv1 hns w' hw =>
    value_any true 0 (v % 4294967296, false) _ ns w' (hN.nx hw) (by have := numN_len v hns; omega) (vfut_num true 0 v ns hns hv0 hv1)
  simp only [List.mem_cons, List.not_mem_nil, or_false] at hc
  rcases hc with rfl | rfl | rfl | rfl | rfl | rfl | rfl | rfl
  · exact take_d k ln cl i.rd A ns.length cn g w0 w hn0 hg hH
  · exact take_x k ln cl i.rd A ns.length cn g w0 w hn0 hg hH
  · exact take_s k ln cl i.rs1 A ns.length cn g w0 w hn0 hg hH
  · exact take_t k ln cl i.rs2 A ns.length cn g w0 w hn0 hg hH
  · have hns : ns.map nodK = numN (i.imm % 4294967296 / 4096) := hns
    have hx : wrap32 (i.imm % 4294967296 / 4096 % 4294967296 * 4096) = i.imm := by
      have := hu rfl
      rw [show i.imm % 4294967296 / 4096 % 4294967296 * 4096 = i.imm % 4294967296 by omega]
      exact wrap_back _ h0 h1
    have := take_u k ln cl A ns.length cn g w0 w hn0 hg hH (i.imm % 4294967296 / 4096 % 4294967296) (by omega) (by omega) (CV _ (by omega) (by omega) hns)
    rw [hx] at this
    exact this
  · have hns : ns.map nodK = numN i.imm := hns
    have := take_m k ln cl i.rs1 A ns.length cn g w0 w hn0 hg hH (i.imm % 4294967296) (numN_len _ hns).1 (CV _ (by omega) (by omega) hns)
    rw [wrap_back _ h0 h1] at this
    exact this
  · exact take_j k ln cl A ns.length cn g w0 w hn0 hg hH
  · have hns : ns.map nodK = numN i.imm := hns
    have := take_i k ln cl A ns.length cn g w0 w hn0 hg hH (i.imm % 4294967296) (CV _ (by omega) (by omega) hns)
    rw [wrap_back _ h0 h1] at this
    exact this

end Go.Proofs.YtdgmdkkockbkjaaGreatDoor

/- Contracts of package show: operand. -/
namespace Go.Proofs.YtdgmdkkockbkjaaGreatDoor
open Go.RowKit
set_option linter.unusedVariables false
set_option linter.unusedSimpArgs false

theorem opnd_d (i : In5) : opnd 100 i = regNP i.rd := rfl
theorem opnd_x (i : In5) : opnd 120 i = regNP i.rd := rfl
theorem opnd_s (i : In5) : opnd 115 i = regNP i.rs1 := rfl
theorem opnd_t (i : In5) : opnd 116 i = regNP i.rs2 := rfl
theorem opnd_u (i : In5) : opnd 117 i = Lib.itoa (i.imm % 4294967296 / 4096) := rfl
theorem opnd_m (i : In5) : opnd 109 i = Lib.itoa i.imm ++ ([40] ++ (regNP i.rs1 ++ [41])) := rfl
theorem opnd_j (i : In5) : opnd 106 i = [46] ++ (if 0 ≤ i.imm then [43] ++ Lib.itoa i.imm else Lib.itoa i.imm) := rfl
theorem opnd_i (i : In5) : opnd 105 i = Lib.itoa i.imm := rfl

/-- The letters that there are. -/
def letC (c : UInt8) : Prop := c = 100 ∨ c = 120 ∨ c = 115 ∨ c = 116 ∨ c = 117 ∨ c = 109 ∨ c = 106 ∨ c = 105

set_option maxHeartbeats 2000000 in
theorem operand_any (c : UInt8) (hc : letC c) (op rd rs1 rs2 imm : Int) (w : World) (h0 : -2147483648 ≤ imm) (h1 : imm ≤ 2147483647) (hN : NamesAt w) (hT : Tab w) :
    Calls Tryz.prog 15 #[.agg #[.int .i64 op, .int .i64 rd, .int .i64 rs1, .int .i64 rs2, .int .i32 imm], .int .i32 c.toNat] w fun e w' => e = .returned (.string (B (opnd c ⟨op, rd, rs1, rs2, imm⟩))) ∧ Nx w w' := by
  have HN := Lib.hid hN
  have HT := Lib.hid hT
  have HI := Lib.hid (And.intro h0 h1)
  have g1 := itoa_len imm (by omega) (by omega)
  have g2 := (regNP_opC rs1).2
  clear hN hT
  rcases hc with rfl | rfl | rfl | rfl | rfl | rfl | rfl | rfl
  all_goals
    go_enter Tryz.func15, Tryz.ntmps15
    go_wp2_with fail
    refine (gitoa_any imm (by omega) (by omega) _ (HT.out.nx ((Nx.refl w).alloc _))).mono ?_
    rintro e w2 ⟨rfl, hn2⟩
    obtain ⟨c0, c1, c2, c3, c4, hz⟩ := five_in hn2
    have H2 := Lib.hid (((Nx.refl w).alloc _).trans hn2)
    clear hn2
  · go_wp2_with fail
    refine (regName_any rd _ (HN.out.keep H2.out)).mono ?_
    rintro e w3 ⟨rfl, rfl⟩
    go_wp2
    go_ret
    refine ⟨?_, H2.out⟩
    rw [opnd_d]
    rfl
  · go_wp2_with fail
    refine (regName_any rd _ (HN.out.keep H2.out)).mono ?_
    rintro e w3 ⟨rfl, rfl⟩
    go_wp2
    go_ret
    refine ⟨?_, H2.out⟩
    rw [opnd_x]
    rfl
  · go_wp2_with fail
    refine (regName_any rs1 _ (HN.out.keep H2.out)).mono ?_
    rintro e w3 ⟨rfl, rfl⟩
    go_wp2
    go_ret
    refine ⟨?_, H2.out⟩
    rw [opnd_s]
    rfl
  · go_wp2_with fail
    refine (regName_any rs2 _ (HN.out.keep H2.out)).mono ?_
    rintro e w3 ⟨rfl, rfl⟩
    go_wp2
    go_ret
    refine ⟨?_, H2.out⟩
    rw [opnd_t]
    rfl
  · go_wp2_with fail
    refine (gitoa_any (imm % 4294967296 / 4096) (by omega) (by omega) _ (HT.out.nx H2.out)).mono ?_
    rintro e w3 ⟨rfl, hn3⟩
    have H3 := Lib.hid (H2.out.trans hn3)
    clear hn3
    go_wp2
    go_ret
    refine ⟨?_, H3.out⟩
    rw [opnd_u]
    rfl
  · have a1 := app_B (Lib.itoa imm) [40]
    have a2 := app_B (Lib.itoa imm ++ [40]) (regNP rs1)
    have a3 := app_B (Lib.itoa imm ++ [40] ++ regNP rs1) [41]
    have s1 : ¬ 9223372036854775807 < (Lib.itoa imm).length + 1 := by omega
    have s2 : (B (Lib.itoa imm ++ [40])).size + (B (regNP rs1)).size ≤ 9223372036854775807 := by show (Lib.itoa imm ++ [40]).length + (regNP rs1).length ≤ _; simp; omega
    have s3 : ¬ 9223372036854775807 < (Lib.itoa imm ++ [40] ++ regNP rs1).length + 1 := by simp; omega
    have HV := Lib.hid (show Lib.itoa imm ++ [40] ++ regNP rs1 ++ [41] = opnd 109 ⟨op, rd, rs1, rs2, imm⟩ by rw [opnd_m]; simp)
    have CR := Lib.hid (fun w h => regName_any rs1 w h)
    generalize Lib.itoa imm ++ [40] ++ regNP rs1 = x2 at *
    generalize Lib.itoa imm ++ [40] = x1 at *
    generalize regNP rs1 = x0 at *
    clear g1 g2
    go_wp2_with fail
    refine (CR.out _ (HN.out.keep H2.out)).mono ?_
    rintro e w3 ⟨rfl, rfl⟩
    go_wp2
    go_ret
    refine ⟨?_, H2.out⟩
    rw [HV.out]
    rfl
  · by_cases hs : 0 ≤ imm
    · have d0 : decide (0 ≤ imm) = true := decide_eq_true hs
      have a1 := app_B [43] (Lib.itoa imm)
      have a2 := app_B [46] ([43] ++ Lib.itoa imm)
      have s1 : ¬ 9223372036854775807 < 1 + (Lib.itoa imm).length := by omega
      have s2 : ¬ 9223372036854775807 < 1 + ([43] ++ Lib.itoa imm).length := by simp; omega
      have HV := Lib.hid (show [46] ++ ([43] ++ Lib.itoa imm) = opnd 106 ⟨op, rd, rs1, rs2, imm⟩ by rw [opnd_j, if_pos hs])
      generalize [43] ++ Lib.itoa imm = x1 at *
      clear g1 g2 hs
      go_wp2
      go_ret
      refine ⟨?_, H2.out⟩
      rw [← HV.out]
      rfl
    · have d0 : decide (0 ≤ imm) = false := decide_eq_false hs
      have a2 := app_B [46] (Lib.itoa imm)
      have s2 : ¬ 9223372036854775807 < 1 + (Lib.itoa imm).length := by omega
      have HV := Lib.hid (show [46] ++ Lib.itoa imm = opnd 106 ⟨op, rd, rs1, rs2, imm⟩ by rw [opnd_j, if_neg hs])
      clear g1 g2 hs
      go_wp2
      go_ret
      refine ⟨?_, H2.out⟩
      rw [← HV.out]
      rfl
  · clear g1 g2
    go_wp2
    go_ret
    refine ⟨?_, H2.out⟩
    rw [opnd_i]
    rfl

end Go.Proofs.YtdgmdkkockbkjaaGreatDoor

