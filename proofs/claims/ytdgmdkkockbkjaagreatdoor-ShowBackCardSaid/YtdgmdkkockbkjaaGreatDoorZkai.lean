/- Parts of the proof, one behind the other. -/
import Derived.Deep.CutRange
import Derived.Test.YtdgmdkkockbkjaaGreatDoorZkad
import Derived.Test.YtdgmdkkockbkjaaGreatDoorZkag
import Derived.Test.YtdgmdkkockbkjaaGreatDoorZkah
/- Contract of typecaseref11.Parse, at the tokens of a text: the walk. -/
namespace Go.Proofs.YtdgmdkkockbkjaaGreatDoor
open Go.RowKit
set_option linter.unusedVariables false
set_option linter.unusedSimpArgs false

theorem rowc_at (w : World) (cs : List Value) (T : TypeId) (g : Nat) (hg : g = w.heap.size) : ∀ (j : Nat) (v : Value), cs[j]? = some v → (w.alloc (.cells cs.toArray T)).cell? ((⟨g, 0, none⟩ : Addr).add j) = some v := by
  subst hg
  exact six_at w cs T

theorem mk_facts : ∀ m < 2, (mkL.getD m [] == [41]) = false ∧ ∀ j, j < m → (mkL.getD m [] == mkL.getD j []) = false := by decide

theorem rest_facts : ∀ x ∈ ([[40], [44]] : List (List UInt8)), (x == [41]) = false ∧ ∀ j, j < 9 → (x == mkL.getD j []) = false := by decide

theorem own_fresh_nods {w : World} {base m : Nat} {v : Value} {ts : List Nod} (hm : m ≤ base) (h : OwnC w base 78 5 v ts.length (nodsC ts)) : Nods w v ts ∧ ∀ g, v.ownBlock = some g → m ≤ g ∧ g < w.heap.size :=
  ⟨own_nods h, fun g hg => ⟨Nat.le_trans hm (h.lt g hg).1, (h.lt g hg).2⟩⟩

/-- The length of a slice. -/
def lenV : Value → Nat
  | .slice _ n _ => n
  | _ => 0

/-- What waits, as nodes. -/
def pendL : Option (Nod × Int) → List Nod
  | none => []
  | some p => [p.1]

theorem Fut.inv2 {fin : List Nod} {rest ts : List Tok} {p : Bool} {out : List Nod} {st : Option (Nod × Int)} (h : Fut fin rest p ts out st) :
    (∃ (t : Tok) (r : List Tok) (lk lm : Int), ts = t :: r ∧ p = true ∧ (t.kind = 1 ∨ t.kind = 5) ∧ (∀ w, Calls Tryz.prog 64 #[.agg #[.int .i64 t.kind, .int .i64 t.line, .int .i64 t.col, .string (B t.text), .int .u32 t.num, .int .i64 t.scope]] w (RetLeaf ⟨lk, t.line, t.col, lm, []⟩ true w)) ∧ Fut fin rest false r (out ++ [⟨lk, t.line, t.col, lm, []⟩]) st) ∨
    (∃ t r, ts = t :: r ∧ p = true ∧ st = none ∧ t.kind = 7 ∧ t.text = [45] ∧ Fut fin rest true r out (some (⟨4, t.line, t.col, 0, []⟩, 7))) ∨
    (∃ (t : Tok) (r : List Tok) (m : Nat), ts = t :: r ∧ p = false ∧ st = none ∧ t.kind = 7 ∧ t.text = mkL.getD m [] ∧ m < 2 ∧ Fut fin rest true r out (some (⟨9 + m, t.line, t.col, 0, []⟩, 5))) ∨
    (p = false ∧ ts = rest ∧ out ++ pendL st = fin ∧ (∀ p, st = some p → 0 ≤ p.2) ∧ restP rest) := by
  rcases h.inv with ⟨t, r, h1, h2, h3, h4⟩ | ⟨t, r, h1, h2, h3, h4, h5⟩ | h | h | ⟨h1, h2, h3, h4, h5⟩ | ⟨n, h, h1, h2, h3, h4, h5, h6⟩
  · refine Or.inl ⟨t, r, 1, t.num, h1, h2, Or.inr h3, fun w => ?_, h4⟩
    rw [h3]; exact leaf_num _ _ _ _ _ _
  · refine Or.inl ⟨t, r, 3, 0, h1, h2, Or.inl h3, fun w => ?_, h5⟩
    rw [h3, h4]; exact leaf_dot _ _ _ _ _
  · exact Or.inr (Or.inl h)
  · exact Or.inr (Or.inr (Or.inl h))
  · subst h2 h4; exact Or.inr (Or.inr (Or.inr ⟨h1, h3, List.append_nil _, (fun p hp => by cases hp), h5⟩))
  · subst h2; exact Or.inr (Or.inr (Or.inr ⟨h1, h4, h5.symm, (fun p hp => by cases hp; exact h3), h6⟩))

/-- What holds while what waits is taken. -/
def PopRel (fin : List Nod) (w wq : World) (ov sv : Value) : Prop :=
  ∃ (out' : List Nod) (st : Option (Nod × Int)), out' ++ pendL st = fin ∧ (∀ p, st = some p → 0 ≤ p.2 ∧ out'.length ≤ 100000) ∧ OwnC wq (w.heap.size + 1) 78 5 ov out'.length (nodsC out') ∧
    OwnC wq (w.heap.size + 1) 142 7 sv (stN st) (stC st) ∧ (∀ x, ov.ownBlock = some x → sv.ownBlock = some x → False) ∧ Has wq w.heap.size po0 ∧ Nx w wq

set_option maxHeartbeats 16000000 in
set_option maxRecDepth 100000 in
theorem par_any (v : Value) (l : List Tok) (fin : List Nod) (rest : List Tok) (w : World) (hT : Toks w v l) (hl : l.length ≤ 100000) (hF : Fut fin rest true l [] none) :
    Calls Tryz.prog 41 #[v] w (RetOut fin rest w) := by
  obtain ⟨i0, hi, hz0, hz1, hz2⟩ := info_parts node_info
  have HI := Lib.hid (And.intro hi (And.intro hz0 (And.intro hz1 hz2)))
  clear hi hz0 hz1 hz2
  obtain ⟨j0, hj, hj0, hj1, hj2⟩ := info_parts wait_info
  have HJ := Lib.hid (And.intro hj (And.intro hj0 (And.intro hj1 hj2)))
  clear hj hj0 hj1 hj2
  obtain ⟨A, c, rfl, hc1, hc2, hA⟩ := hT.form
  have HA := Lib.hid hA
  have HT := Lib.hid hT
  have HF := Lib.hid hF
  clear hA hT hF
  unfold maxLen at hc2
  go_enter Tryz.func41, Tryz.ntmps41
  go_wp2
  go_loopw [3, 4, 5, 6] (fun ov sv pv iv wr => ParRel fin rest l w wr ov sv pv iv) (fun _ _ _ iv _ => l.length + 1 - (intOf iv).toNat)
  case atStart => exact ⟨0, true, [], none, Nat.zero_le _, rfl, rfl, Nat.le_refl _, OwnC.nil _ _ _ _, OwnC.nil _ _ _ _, (fun x h => by cases h), Has.new w po0, (Nx.refl w).alloc _, (fun h => by cases h), by simpa using HF.out⟩
  case round =>
    obtain ⟨i, p, out, st, hi1, rfl, rfl, hol, hown, hst, hdis, hh, hnx, hpi, hF⟩ := hrel
    have HNX := Lib.hid hnx
    have HO := Lib.hid hown
    have HS := Lib.hid hst
    have HD := Lib.hid hdis
    have HH := Lib.hid hh
    have zb := HH.out.lt
    clear hnx hown hst hdis hh
    rcases hF.inv2 with ⟨t, r, lk, lm, hd, rfl, hk, hLf, hF2⟩ | ⟨t, r, hd, rfl, rfl, hk, hx, hF2⟩ | ⟨t, r, m, hd, rfl, rfl, hk, hx, hm, hF2⟩ | ⟨rfl, hd, hfin, h0, hr⟩
    · obtain ⟨hlt, ht, hr⟩ := drop_tok hd
      obtain ⟨g, o, rfl, hTA⟩ : ∃ g o, A = some ⟨g, o, none⟩ ∧ TokAt w g o l := by
        rcases HA.out with ⟨_, h, _⟩ | h
        · subst h; cases ht
        · exact h
      obtain ⟨kd, ln, cl, tx, nm, sc⟩ := t
      dsimp only at hk hLf hF2
      obtain ⟨a0, a1, a2, a3, a4, a5⟩ := (show TokAt wr g o l from fun k t hk j v hv => HNX.out.cell (hTA k t hk j v hv)).at_ i _ ht
      dsimp only at a0 a1 a2 a3 a4 a5
      have hiI : (i : Int) < l.length := by omega
      have dg : decide ((i : Int) ≥ l.length) = false := decide_eq_false (by omega)
      have dl : decide ((i : Int) < l.length) = true := decide_eq_true (by omega)
      have zg := block_lt a0
      have HTK := Lib.hid ht
      obtain ⟨Ao, co, hov⟩ := HO.out.form
      obtain ⟨As, cs, hsv⟩ := HS.out.form
      subst hov hsv
      have HF2 := Lib.hid (show Fut fin rest false (l.drop (i + 1)) (out ++ [⟨lk, ln, cl, lm, []⟩]) st from hr ▸ hF2)
      clear hTA ht hr hd hF hF2
      go_wp2_with fail
      with_reducible refine (hLf _).mono ?_
      rintro e w2 ⟨rfl, hn2⟩
      have HN2 := Lib.hid (HNX.out.trans hn2)
      have HQ2 := Lib.hid hn2
      clear hn2
      go_wp2_with fail
      with_reducible refine (opens_none _ l i _ _ (HT.out.nx (HN2.out.alloc _)) HTK.out (hk)).mono ?_
      rintro e w4 ⟨rfl, hn4⟩
      obtain ⟨c0, c1, c2, c3, c4, hz⟩ := five_in hn4
      have HN4 := Lib.hid ((HN2.out.alloc _).trans hn4)
      have HQ4 := Lib.hid (((HQ2.out.alloc _).trans hn4))
      clear hn4
      obtain ⟨hi, hz0, hz1, hz2⟩ := HI.out
      have hA := Lib.hid (((HO.out.nx HQ4.out).alloc (.cells #[.int .i64 0, .int .i64 0, .int .i64 0, .int .u32 0, .string (B []), .int .i64 0, .bool false] 142)).alloc (.cells #[.int .i64 lk, .int .i64 ln, .int .i64 cl, .int .u32 lm, .string (B [])] 78))
      go_wp2_with (at_builtin; refine wpList_append_c _ rfl _ _ 45 rfl (w.heap.size + 1) 78 i0 (.agg #[.int .i64 0, .int .i64 0, .int .i64 0, .int .u32 0, .string (B [])]) 5 48 Tryz.underlying45 hi hz0 hz1 hz2 rfl (by decide) _ _ _ rfl hA.out (some ⟨w4.heap.size + 1, 0, none⟩) 1 1 [.int .i64 lk, .int .i64 ln, .int .i64 cl, .int .u32 lm, .string (B [])] rfl rfl (Or.inr ⟨_, rfl, ?a1⟩) ?a2 ?a3 ?a4 ?a5 ?_)
      case a1 => exact rowc_at (w4.alloc (.cells #[.int .i64 0, .int .i64 0, .int .i64 0, .int .u32 0, .string (B []), .int .i64 0, .bool false] 142)) [.int .i64 lk, .int .i64 ln, .int .i64 cl, .int .u32 lm, .string (B [])] 78 _ (by simp)
      case a2 => simp [Value.oneCell']
      case a3 => unfold maxLen; omega
      case a4 => omega
      case a5 => have := HN4.out.size; simp; omega
      intro v3 w3 hown3 hgr3 hbl3
      obtain ⟨p1, p2, p3, p4⟩ := push_all ((HN4.out.alloc _).alloc _) hA.out (((HS.out.nx HQ4.out).alloc _).alloc _) HD.out (((HH.out.nx HQ4.out).alloc _).alloc _) hgr3 hbl3 (by simp)
      have P1 := Lib.hid p1
      have P2 := Lib.hid p2
      have P3 := Lib.hid p3
      have P4 := Lib.hid p4
      have HO3 := Lib.hid hown3
      clear hown3 hgr3 hbl3 p1 p2 p3 p4
      go_wp2
      go_roundw
      case rel => exact ⟨i + 1, false, out ++ [⟨lk, ln, cl, lm, []⟩], st, by omega, by go_num, rfl, by simp; omega, by rw [nodsC_snoc]; simp only [List.length_append, List.length_singleton]; exact HO3.out, P3.out, P4.out, P2.out, P1.out, (fun _ => by omega), HF2.out⟩
      case measure => simp [intOf]; omega
    · obtain ⟨hlt, ht, hr⟩ := drop_tok hd
      obtain ⟨g, o, rfl, hTA⟩ : ∃ g o, A = some ⟨g, o, none⟩ ∧ TokAt w g o l := by
        rcases HA.out with ⟨_, h, _⟩ | h
        · subst h; cases ht
        · exact h
      obtain ⟨kd, ln, cl, tx, nm, sc⟩ := t
      dsimp only at hk hF2 hx
      subst hk hx
      obtain ⟨a0, a1, a2, a3, a4, a5⟩ := (show TokAt wr g o l from fun k t hk j v hv => HNX.out.cell (hTA k t hk j v hv)).at_ i _ ht
      dsimp only at a0 a1 a2 a3 a4 a5
      have hiI : (i : Int) < l.length := by omega
      have dg : decide ((i : Int) ≥ l.length) = false := decide_eq_false (by omega)
      have dl : decide ((i : Int) < l.length) = true := decide_eq_true (by omega)
      have zg := block_lt a0
      have HTK := Lib.hid ht
      obtain ⟨Ao, co, hov⟩ := HO.out.form
      obtain ⟨As, cs, hsv⟩ : ∃ A c, _ = Value.slice A 0 c := HS.out.form
      subst hov hsv
      have HF2 := Lib.hid (show Fut fin rest true (l.drop (i + 1)) out (some (⟨4, ln, cl, 0, []⟩, 7)) from hr ▸ hF2)
      clear hTA ht hr hd hF hF2
      go_wp2_with fail
      with_reducible refine (leaf_mark ln cl nm sc [45] _).mono ?_
      rintro e w2 ⟨rfl, hn2⟩
      have HN2 := Lib.hid (HNX.out.trans hn2)
      have HQ2 := Lib.hid hn2
      clear hn2
      go_wp2_with fail
      with_reducible refine (opens_neg _ l i _ _ (HT.out.nx (HN2.out.alloc _)) HTK.out rfl rfl).mono ?_
      rintro e w4 ⟨rfl, hn4⟩
      have HN4 := Lib.hid ((HN2.out.alloc _).trans hn4)
      have HQ4 := Lib.hid (((HQ2.out.alloc _).trans hn4))
      clear hn4
      go_wp2_with fail
      with_reducible refine (deep_nil _ _ _).mono ?_
      rintro e w5 ⟨rfl, rfl⟩
      obtain ⟨hj, hj0, hj1, hj2⟩ := HJ.out
      have hA := Lib.hid (((HS.out.nx HQ4.out).alloc (.cells #[.int .i64 4, .int .i64 ln, .int .i64 cl, .int .u32 0, .string (B []), .int .i64 7, .bool false] 142)).alloc (.cells #[.int .i64 4, .int .i64 ln, .int .i64 cl, .int .u32 0, .string (B []), .int .i64 7, .bool false] 142))
      go_wp2_with (at_builtin; refine wpList_append_c _ rfl _ _ 137 rfl (w.heap.size + 1) 142 j0 (.agg #[.int .i64 0, .int .i64 0, .int .i64 0, .int .u32 0, .string (B []), .int .i64 0, .bool false]) 7 64 Tryz.underlying137 hj hj0 hj1 hj2 rfl (by decide) _ _ _ rfl hA.out (some ⟨w4.heap.size + 1, 0, none⟩) 1 1 [.int .i64 4, .int .i64 ln, .int .i64 cl, .int .u32 0, .string (B []), .int .i64 7, .bool false] rfl rfl (Or.inr ⟨_, rfl, ?b1⟩) ?b2 ?b3 ?b4 ?b5 ?_)
      case b1 => exact rowc_at (w4.alloc (.cells #[.int .i64 4, .int .i64 ln, .int .i64 cl, .int .u32 0, .string (B []), .int .i64 7, .bool false] 142)) [.int .i64 4, .int .i64 ln, .int .i64 cl, .int .u32 0, .string (B []), .int .i64 7, .bool false] 142 _ (by simp)
      case b2 => simp [Value.oneCell']
      case b3 => show 0 + 1 ≤ _; unfold maxLen; omega
      case b4 => show (0 + 1) * 64 ≤ _; omega
      case b5 => have := HN4.out.size; simp; omega
      intro v3 w3 hown3 hgr3 hbl3
      obtain ⟨p1, p2, p3, p4⟩ := push_all ((HN4.out.alloc _).alloc _) hA.out (((HO.out.nx HQ4.out).alloc _).alloc _) (fun x h1 h2 => HD.out x h2 h1) (((HH.out.nx HQ4.out).alloc _).alloc _) hgr3 hbl3 (by simp)
      have P1 := Lib.hid p1
      have P2 := Lib.hid p2
      have P3 := Lib.hid p3
      have P4 := Lib.hid p4
      have HO3 := Lib.hid hown3
      clear hown3 hgr3 hbl3 p1 p2 p3 p4
      go_wp2
      go_roundw
      case rel => exact ⟨i + 1, true, out, some (⟨4, ln, cl, 0, []⟩, 7), by omega, by go_num, rfl, by omega, P3.out, HO3.out, (fun x h1 h2 => P4.out x h2 h1), P2.out, P1.out, (fun h => by cases h), HF2.out⟩
      case measure => simp [intOf]; omega
    · obtain ⟨hlt, ht, hr⟩ := drop_tok hd
      obtain ⟨g, o, rfl, hTA⟩ : ∃ g o, A = some ⟨g, o, none⟩ ∧ TokAt w g o l := by
        rcases HA.out with ⟨_, h, _⟩ | h
        · subst h; cases ht
        · exact h
      obtain ⟨kd, ln, cl, tx, nm, sc⟩ := t
      dsimp only at hk hF2 hx
      subst hk
      obtain ⟨a0, a1, a2, a3, a4, a5⟩ := (show TokAt wr g o l from fun k t hk j v hv => HNX.out.cell (hTA k t hk j v hv)).at_ i _ ht
      dsimp only at a0 a1 a2 a3 a4 a5
      have hiI : (i : Int) < l.length := by omega
      have dg : decide ((i : Int) ≥ l.length) = false := decide_eq_false (by omega)
      have dl : decide ((i : Int) < l.length) = true := decide_eq_true (by omega)
      have zg := block_lt a0
      have HTK := Lib.hid ht
      obtain ⟨Ao, co, hov⟩ := HO.out.form
      obtain ⟨As, cs, hsv⟩ : ∃ A c, _ = Value.slice A 0 c := HS.out.form
      subst hov hsv
      have HF2 := Lib.hid (show Fut fin rest true (l.drop (i + 1)) out (some (⟨9 + m, ln, cl, 0, []⟩, 5)) from hr ▸ hF2)
      obtain ⟨bx, bj⟩ := mk_facts m hm
      rw [← hx] at bx bj
      have CT := Lib.hid (two_at m (by omega) ln cl nm sc tx bj (fun _ => by rw [hx]; exact beq_self_eq_true _) 5 (9 + m) (Or.inl ⟨by omega, by rcases (by omega : m = 0 ∨ m = 1) with rfl | rfl <;> rfl, rfl⟩))
      have hmI : (0 : Int) ≤ 9 + (m : Int) ∧ (9 : Int) + (m : Int) ≤ 10 := by omega
      clear hTA ht hr hd hF hF2 hx bj
      go_wp2_with fail
      with_reducible refine (CT.out _).mono ?_
      rintro e w2 ⟨rfl, hn2⟩
      have HN2 := Lib.hid (HNX.out.trans hn2)
      have HQ2 := Lib.hid hn2
      replace a0 := hn2.cell a0
      replace a1 := hn2.cell a1
      replace a2 := hn2.cell a2
      replace a3 := hn2.cell a3
      replace zg := Nat.lt_of_lt_of_le zg hn2.size
      clear hn2
      go_wp2
      go_loop [3, 4] (fun ov sv => ov = .slice Ao out.length co ∧ sv = .slice As 0 cs) (fun _ _ => 1)
      case atStart => exact ⟨rfl, rfl⟩
      case round =>
        obtain ⟨rfl, rfl⟩ := hrel
        go_wp2
        (refine wp_region_mk 15 (Nx _) (w2.drew.alloc (.cells #[.int .i64 (9 + m), .int .i64 ln, .int .i64 cl, .int .u32 0, .string (B []), .int .i64 5, .bool false] 142)) (by kernel_rfl) (by kernel_rfl) ((Nx.refl _).drew) (((Nx.refl _).drew).alloc _) ?_; simp only [List.take_succ_cons, List.take_zero, List.drop_succ_cons, List.drop_zero]; (repeat (refine wpRd_step (fun K hK => ?_); go_simp; first | (refine hK _ ?_; clear hK K) | (apply Exists.intro; refine ⟨fun w' hw' => ?_, hK _ ?_⟩; (first | (with_reducible rfl) | (rw [hw'.cell a1]; exact ⟨rfl, rfl⟩) | (rw [hw'.cell a2]; exact ⟨rfl, rfl⟩) | (obtain ⟨hc, hf⟩ := nx_cells hw'; go_simp; with_reducible rfl) | (obtain ⟨hc, hf⟩ := nx_cells hw'; go_simp; rfl)); clear hK K))); refine wpRd_nil ?_; refine ⟨_, ?_, rfl, ?_, ?_, ?_⟩; rotate_left; (first | rfl | simp [Region.wanted]); (go_simp; first | rfl | exact ⟨rfl, rfl⟩); show wpList _ _ _ _ _ _)
        obtain ⟨hj, hj0, hj1, hj2⟩ := HJ.out
        have hA := Lib.hid ((HS.out.nx HQ2.out.drew).alloc (.cells #[.int .i64 (9 + m), .int .i64 ln, .int .i64 cl, .int .u32 0, .string (B []), .int .i64 5, .bool false] 142))
        go_wp2_with (at_builtin; refine wpList_append_c _ rfl _ _ 137 rfl (w.heap.size + 1) 142 j0 (.agg #[.int .i64 0, .int .i64 0, .int .i64 0, .int .u32 0, .string (B []), .int .i64 0, .bool false]) 7 64 Tryz.underlying137 hj hj0 hj1 hj2 rfl (by decide) _ _ _ rfl hA.out (some ⟨w2.heap.size, 0, none⟩) 1 1 [.int .i64 (9 + m), .int .i64 ln, .int .i64 cl, .int .u32 0, .string (B []), .int .i64 5, .bool false] rfl rfl (Or.inr ⟨_, rfl, ?d1⟩) ?d2 ?d3 ?d4 ?d5 ?_)
        case d1 => exact rowc_at w2.drew [.int .i64 (9 + m), .int .i64 ln, .int .i64 cl, .int .u32 0, .string (B []), .int .i64 5, .bool false] 142 _ (by simp)
        case d2 => simp [Value.oneCell']
        case d3 => show 0 + 1 ≤ _; unfold maxLen; omega
        case d4 => show (0 + 1) * 64 ≤ _; omega
        case d5 => have := HN2.out.size; simp; omega
        intro v3 w3 hown3 hgr3 hbl3
        obtain ⟨p1, p2, p3, p4⟩ := push_all ((HN2.out.drew).alloc _) hA.out ((HO.out.nx HQ2.out.drew).alloc _) (fun x h1 h2 => HD.out x h2 h1) ((HH.out.nx HQ2.out.drew).alloc _) hgr3 hbl3 (by simp)
        have P1 := Lib.hid p1
        have P2 := Lib.hid p2
        have P3 := Lib.hid p3
        have P4 := Lib.hid p4
        have HO3 := Lib.hid hown3
        clear hown3 hgr3 hbl3 p1 p2 p3 p4
        go_wp2
        go_roundw
        case rel => exact ⟨i + 1, true, out, some (⟨9 + m, ln, cl, 0, []⟩, 5), by omega, by go_num, rfl, by omega, P3.out, HO3.out, (fun x h1 h2 => P4.out x h2 h1), P2.out, P1.out, (fun h => by cases h), HF2.out⟩
        case measure => simp [intOf]; omega
    · have hi0 : 1 ≤ i := hpi rfl
      obtain ⟨g, o, rfl, hTA⟩ : ∃ g o, A = some ⟨g, o, none⟩ ∧ TokAt w g o l := by
        rcases HA.out with ⟨_, h, _⟩ | h
        · subst h; exfalso; have : i ≤ 0 := hi1; omega
        · exact h
      obtain ⟨Ao, co, hov⟩ := HO.out.form
      subst hov
      have HR := Lib.hid (show rest.length = l.length - i by rw [← hd, List.length_drop])
      have hi1I : (i : Int) ≤ l.length := by omega
      obtain ⟨As, cs, hsv⟩ := HS.out.form
      subst hsv
      have HFI := Lib.hid hfin
      have HP0 := Lib.hid (show ∀ p, st = some p → 0 ≤ p.2 ∧ out.length ≤ 100000 from fun p hp => ⟨h0 p hp, by omega⟩)
      clear hfin h0 hF
      go_upto_if 100 with fail
      go_cut [11, 12, 13] from 97 to 122 (fun hv kv cv wx => hv = .int .i64 0 ∧ kv = .int .i64 0 ∧ cv = .bool false ∧ Nx wr wx)
      case first =>
        rcases hr with hr | ⟨t, r, hr, hk, hx⟩
        · have hie : i = l.length := by
            have := congrArg List.length (hd.trans hr)
            simp at this
            omega
          have dl : decide ((i : Int) < l.length) = false := decide_eq_false (by omega)
          have hge : (l.length : Int) ≤ i := by omega
          clear hie hr hTA hd
          go_wp2
          go_meet
          case rel => exact ⟨rfl, rfl, rfl, Nx.refl _⟩
        · obtain ⟨hlt, ht, _⟩ := drop_tok (hd.trans hr)
          obtain ⟨kd, ln, cl, tx, nm, sc⟩ := t
          dsimp only at hk hx
          subst hk
          obtain ⟨a0, a1, a2, a3, a4, a5⟩ := (show TokAt wr g o l from fun k t hk j v hv => HNX.out.cell (hTA k t hk j v hv)).at_ i _ ht
          dsimp only at a0 a1 a2 a3 a4 a5
          have hiI : (i : Int) < l.length := by omega
          have dl : decide ((i : Int) < l.length) = true := decide_eq_true (by omega)
          have zg := block_lt a0
          obtain ⟨bx, bj⟩ := rest_facts tx (by rcases hx with rfl | rfl <;> simp)
          have CT := Lib.hid (two_at 9 (by omega) ln cl nm sc tx bj (fun h => absurd h (by omega)) 0 0 (Or.inr ⟨rfl, rfl, rfl⟩))
          clear bj hx hr hTA ht hd
          go_wp2_with fail
          with_reducible refine (CT.out _).mono ?_
          rintro e w2 ⟨rfl, hn2⟩
          have HQ2 := Lib.hid hn2
          replace a0 := hn2.cell a0
          replace a3 := hn2.cell a3
          replace zg := Nat.lt_of_lt_of_le zg hn2.size
          clear hn2
          go_wp2
          go_meet
          case rel => exact ⟨rfl, rfl, rfl, HQ2.out⟩
      case rest =>
        obtain ⟨rfl, rfl, rfl, hn2⟩ := hcut
        have HHH := Lib.hid (HH.out.nx hn2)
        have HNF := Lib.hid (HNX.out.trans hn2)
        have HOF := Lib.hid (HO.out.nx hn2)
        have HSF := Lib.hid (HS.out.nx hn2)
        clear hn2 hr hTA hd
        go_wp2
        go_loopw [3, 4] (fun ov sv wq => PopRel fin w wq ov sv) (fun _ sv _ => lenV sv)
        case atStart => exact ⟨out, st, HFI.out, HP0.out, HOF.out, HSF.out, HD.out, HHH.out, HNF.out⟩
        case round =>
          clear HOF HSF HD HHH HNF HO HS HFI HP0
          obtain ⟨out', st', hfi, hp0, hown, hst, hdis, hh, hnx⟩ := hrel
          have HFI := Lib.hid hfi
          clear hfi
          cases st' with
          | some nh =>
            obtain ⟨n, h⟩ := nh
            obtain ⟨h0, hol'⟩ := hp0 _ rfl
            clear hp0
            dsimp only at h0
            obtain ⟨gs, cps, hsv, hsb, hs1, hs2⟩ : ∃ g cap, _ = Value.slice (some ⟨g, 0, none⟩) 1 cap ∧ w.heap.size + 1 ≤ g ∧ 1 ≤ cap ∧ cap ≤ maxLen := hst.some Nat.zero_lt_one
            subst hsv
            obtain ⟨Ao, co, hov⟩ := hown.form
            subst hov
            have s0 := hst.cells (g := gs) rfl 0 _ rfl
            have s1 := hst.cells (g := gs) rfl 1 _ rfl
            have s2 := hst.cells (g := gs) rfl 2 _ rfl
            have s3 := hst.cells (g := gs) rfl 3 _ rfl
            have s4 := hst.cells (g := gs) rfl 4 _ rfl
            have s5 := hst.cells (g := gs) rfl 5 _ rfl
            have s6 := hst.cells (g := gs) rfl 6 _ rfl
            have zs := block_lt s0
            have dh : decide (h ≥ 0) = true := decide_eq_true h0
            have dh2 : decide (0 ≤ h) = true := decide_eq_true h0
            unfold maxLen at hs2
            have HNF := Lib.hid hnx
            have HOF := Lib.hid hown
            have HSF := Lib.hid hst
            have HDF := Lib.hid hdis
            have HHF := Lib.hid hh
            have zz := HHF.out.lt
            obtain ⟨hi, hz0, hz1, hz2⟩ := HI.out
            obtain ⟨hj, hj0, hj1, hj2⟩ := HJ.out
            have hA := Lib.hid (HOF.out.alloc (.cells #[.int .i64 n.kind, .int .i64 n.line, .int .i64 n.col, .int .u32 n.num, .string (B n.name)] 78))
            clear hnx hown hst hdis hh
            go_wp2_with (at_builtin; refine wpList_append_c _ rfl _ _ 45 rfl (w.heap.size + 1) 78 i0 (.agg #[.int .i64 0, .int .i64 0, .int .i64 0, .int .u32 0, .string (B [])]) 5 48 Tryz.underlying45 hi hz0 hz1 hz2 rfl (by decide) _ _ _ rfl hA.out (some ⟨wr.heap.size, 0, none⟩) 1 1 [.int .i64 n.kind, .int .i64 n.line, .int .i64 n.col, .int .u32 n.num, .string (B n.name)] rfl rfl (Or.inr ⟨_, rfl, ?e1⟩) ?e2 ?e3 ?e4 ?e5 ?_)
            try (case e1 => exact rowc_at wr [.int .i64 n.kind, .int .i64 n.line, .int .i64 n.col, .int .u32 n.num, .string (B n.name)] 78 _ rfl)
            case e2 => simp [Value.oneCell']
            case e3 => unfold maxLen; omega
            case e4 => omega
            case e5 => first | omega | (simp; omega)
            intro v3 w3 hown3 hgr3 hbl3
            obtain ⟨p1, p2, p3, p4⟩ := push_all (HNF.out.alloc _) hA.out (HSF.out.alloc _) HDF.out (HHF.out.alloc _) hgr3 hbl3 (by simp)
            have P1 := Lib.hid p1
            have P2 := Lib.hid p2
            have HO3 := Lib.hid hown3
            clear hown3 hgr3 hbl3 p1 p2 p3 p4
            have zw := P2.out.lt
            have hB := Lib.hid (OwnC.made w3 (w.heap.size + 1) 142 7 #[] 0 (by omega) (by unfold maxLen; omega) (by simp))
            go_wp2_with (at_builtin; refine wpList_append_c _ rfl _ _ 137 rfl (w.heap.size + 1) 142 j0 (.agg #[.int .i64 0, .int .i64 0, .int .i64 0, .int .u32 0, .string (B []), .int .i64 0, .bool false]) 7 64 Tryz.underlying137 hj hj0 hj1 hj2 rfl (by decide) _ _ _ rfl hB.out (some ⟨gs, 0, none⟩) 0 cps [] rfl rfl (Or.inr ⟨_, rfl, ?g1⟩) ?g2 ?g3 ?g4 ?g5 ?_)
            case g1 => intro j u hu; cases hu
            case g2 => intro u hu; cases hu
            case g3 => unfold maxLen; omega
            case g4 => omega
            case g5 => first | omega | (simp; omega)
            intro v4 w4 hown4 hgr4 hbl4
            obtain ⟨q1, q2, q3, q4⟩ := push_all (P1.out.alloc _) hB.out (HO3.out.alloc _) (fun x h1 h2 => by have h3 := (HO3.out.lt x h2).2; have h1 : some w3.heap.size = some x := h1; injection h1 with h1; omega) (P2.out.alloc _) hgr4 hbl4 (by simp)
            have Q1 := Lib.hid q1
            have Q2 := Lib.hid q2
            have Q3 := Lib.hid q3
            have Q4 := Lib.hid q4
            obtain ⟨A4, c4, hv4⟩ := hown4.form
            subst hv4
            have HO4 := Lib.hid hown4
            clear hown4 hgr4 hbl4 q1 q2 q3 q4
            go_wp2
            go_roundw
            case rel => exact ⟨out' ++ [n], none, by rw [← HFI.out]; exact List.append_nil _, (fun p hp => by cases hp), by rw [nodsC_snoc]; simp only [List.length_append, List.length_singleton]; exact Q3.out, HO4.out, (fun x h1 h2 => Q4.out x h2 h1), Q2.out, Q1.out⟩
            case measure => show 0 + 0 < 1; omega
          | none =>
            obtain ⟨As, cs, hsv⟩ : ∃ A c, _ = Value.slice A 0 c := hst.form
            obtain ⟨Ao, co, hov⟩ := hown.form
            subst hov hsv
            have hfi := HFI.out
            unfold pendL at hfi
            rw [List.append_nil] at hfi
            have HFI := Lib.hid hfi
            clear hfi hp0
            have HHH := Lib.hid hh
            have HNF := Lib.hid hnx
            have HOF := Lib.hid hown
            clear hown hst hdis hnx
            have hh := HHH.out
            unfold po0 at hh
            have r0 := hh.cell 0 _ rfl
            have r1 := hh.cell 1 _ rfl
            have r2 := hh.cell 2 _ rfl
            have r3 := hh.cell 3 _ rfl
            have r4 := hh.cell 4 _ rfl
            have f0 := hh.free 0
            have f1 := hh.free 1
            have f2 := hh.free 2
            have f3 := hh.free 3
            have f4 := hh.free 4
            have zr := hh.lt
            clear hh
            have HLF := Lib.hid (show out' = fin from HFI.out)
            by_cases hcl : i = c
            · have hie : l.length = i := by omega
              have HRZ := Lib.hid (show rest.length = 0 by rw [HR.out]; omega)
              subst hcl
              go_wp2
              refine bodyPost_ret (v := .agg #[.slice Ao (out').length co, .slice (some ⟨g, o, none⟩) 0 0, .int .i64 0, .int .i64 0, .int .i64 0]) (by simp [results, Tryz.results41, go_sem, r0, r1, r2, r3, r4, f0, f1, f2, f3, f4, zr]) rfl ?_
              rw [← HLF.out]
              exact ⟨_, (some ⟨g, o, none⟩), 0, by rw [HRZ.out], by repeat (with_reducible first | exact HNF.out | refine Nx.setCell ?_ (Nat.le_refl _) _), own_fresh_nods (base := w.heap.size + 1) (Nat.le_succ _) (by repeat (with_reducible first | exact HOF.out | refine own_set ?_ (Nat.lt_succ_self _) _))⟩
            · have hiI : (i : Int) < c := by omega
              go_wp2
              refine bodyPost_ret (v := .agg #[.slice Ao (out').length co, .slice (some ⟨g, o + i * 6, none⟩) (l.length - i) (c - i), .int .i64 0, .int .i64 0, .int .i64 0]) (by simp [results, Tryz.results41, go_sem, r0, r1, r2, r3, r4, f0, f1, f2, f3, f4, zr]) rfl ?_
              rw [← HLF.out]
              exact ⟨_, (some ⟨g, o + i * 6, none⟩), (c - i), by rw [HR.out], by repeat (with_reducible first | exact HNF.out | refine Nx.setCell ?_ (Nat.le_refl _) _), own_fresh_nods (base := w.heap.size + 1) (Nat.le_succ _) (by repeat (with_reducible first | exact HOF.out | refine own_set ?_ (Nat.lt_succ_self _) _))⟩

end Go.Proofs.YtdgmdkkockbkjaaGreatDoor

/- Contract of typecaseref16.operand, at the operands of a text. -/
namespace Go.Proofs.YtdgmdkkockbkjaaGreatDoor
open Go.RowKit
set_option linter.unusedVariables false
set_option linter.unusedSimpArgs false

/-- An operand, by its cells. -/
abbrev argC (kd ln cl rg : Int) (nv : Value) : List Value := [.int .i64 kd, .int .i64 ln, .int .i64 cl, .int .i64 rg, nv, .string (B [])]

abbrev argV (kd ln cl rg : Int) (nv : Value) : Value := .agg #[.int .i64 kd, .int .i64 ln, .int .i64 cl, .int .i64 rg, nv, .string (B [])]

abbrev argO (kd ln cl rg : Int) (nv : Value) : Obj := .cells #[.int .i64 kd, .int .i64 ln, .int .i64 cl, .int .i64 rg, nv, .string (B [])] 71

def kindO : Opd → Int
  | .reg _ => 1
  | .imm _ => 2
  | .mem _ _ => 3
  | .here _ => 2

def rgO : Opd → Int
  | .reg n => n
  | .imm _ => 0
  | .mem _ n => n
  | .here _ => 0

def nodO : Opd → List (Int × Int × List UInt8)
  | .reg _ => []
  | .imm v => numN v
  | .mem v _ => numN v
  | .here v => hereN v

/-- What comes of operand: the operand, its nodes in new memory, and where it goes on. -/
def RetOpn (kd rg : Int) (ns : List Nod) (j : Nat) (w : World) (e : Ending) (w' : World) : Prop :=
  ∃ ln cl nv, e = .returned (.tuple #[argV kd ln cl rg nv, .int .i64 j, .agg #[.int .i64 0, .int .i64 0, .int .i64 0]]) ∧ Nx w w' ∧ Nods w' nv ns ∧ ∀ g, nv.ownBlock = some g → w.heap.size ≤ g ∧ g < w'.heap.size

theorem Nods.nil (w : World) : Nods w (.slice none 0 0) [] := Or.inl ⟨⟨none, rfl⟩, rfl⟩

/-- The boxes of operand. -/
theorem opd_has {w w2 : World} {A4 A6 A7 : Obj} (h : Nx ((((w.alloc A4).alloc A6).drew).alloc A7) w2) : Has w2 w.heap.size A4 ∧ Has w2 (w.heap.size + 1) A6 ∧ Has w2 (w.heap.size + 1 + 1) A7 ∧ Nx w w2 := by
  have h0 : Nx w ((((w.alloc A4).alloc A6).drew).alloc A7) := ((((Nx.refl w).alloc _).alloc _).drew).alloc _
  have k4 : Has ((((w.alloc A4).alloc A6).drew).alloc A7) w.heap.size A4 := (Has.nx ((Has.new w A4).alloc A6) ((Nx.refl _).drew)).alloc _
  have k6 : Has ((((w.alloc A4).alloc A6).drew).alloc A7) (w.heap.size + 1) A6 := (Has.nx (Has.at_ (w.alloc A4) A6 (by simp)) ((Nx.refl _).drew)).alloc _
  have k7 : Has ((((w.alloc A4).alloc A6).drew).alloc A7) (w.heap.size + 1 + 1) A7 := Has.at_ _ _ (by simp)
  exact ⟨k4.nx h, k6.nx h, k7.nx h, h0.trans h⟩

set_option maxHeartbeats 4000000 in
set_option maxRecDepth 100000 in
theorem opd_reg (v : Value) (l : List Tok) (i n : Nat) (t : Tok) (w : World) (hT : Toks w v l) (hl : l.length ≤ 100000) (ht : l[i]? = some t) (hk : t.kind = 1) (hr : regA l i = n) (he : endsB l (i + 1) = true) :
    Calls Tryz.prog 22 #[v, .int .i64 i] w (RetOpn 1 n [] (i + 1) w) := by
  have hlt := (List.getElem?_eq_some_iff.1 ht).1
  have CR := Lib.hid (fun w' (h : Nx w w') => hr ▸ reg16_any v l i w' (hT.nx h) hl (by omega))
  have CE := Lib.hid (fun w' (h : Nx w w') => he ▸ ends_any v l (i + 1) w' (hT.nx h) hl (by omega))
  obtain ⟨A, c, rfl, hc1, hc2, hA⟩ := hT.form
  obtain ⟨g, o, rfl, hTA⟩ : ∃ g o, A = some ⟨g, o, none⟩ ∧ TokAt w g o l := by
    rcases hA with ⟨_, h, _⟩ | h
    · subst h; cases ht
    · exact h
  obtain ⟨a0, a1, a2, a3, a4, a5⟩ := hTA.at_ i t ht
  obtain ⟨kd, ln, cl, tx, nm, sc⟩ := t
  dsimp only at a0 a1 a2 a3 a4 a5 hk
  subst hk
  have hiI : (i : Int) < l.length := by omega
  have le2 : w.heap.size ≤ (⟨w.heap.size + 1 + 1, 0, none⟩ : Addr).block := by show w.heap.size ≤ w.heap.size + 1 + 1; omega
  have ne02 : w.heap.size ≠ (⟨w.heap.size + 1 + 1, 0, none⟩ : Addr).block := by show w.heap.size ≠ w.heap.size + 1 + 1; omega
  have ne12 : w.heap.size + 1 ≠ (⟨w.heap.size + 1 + 1, 0, none⟩ : Addr).block := by show w.heap.size + 1 ≠ w.heap.size + 1 + 1; omega
  have hg : g < w.heap.size := block_lt a0
  have hg1 : g < w.heap.size + 1 := by omega
  have hg2 : g < w.heap.size + 1 + 1 := by omega
  have hg3 : g ≠ w.heap.size := by omega
  have hg4 : g ≠ w.heap.size + 1 := by omega
  have hg5 : g ≠ w.heap.size + 1 + 1 := by omega
  clear hT hA hTA ht a3 a4 a5 hr he
  unfold maxLen at hc2
  go_enter Tryz.func22, Tryz.ntmps22
  go_wp2
  (refine wp_region_mk 11 (Nx _) ((((w.alloc (.cells #[.int .i64 0, .int .i64 0, .int .i64 0, .int .i64 0, .slice none 0 0, .string (B [])] 71)).alloc (.cells #[.int .i64 0, .int .i64 0, .int .i64 0] 29)).drew).alloc (.cells #[.int .i64 0, .int .i64 0, .int .i64 0, .int .i64 0, .slice none 0 0, .string (B [])] 71)) (by kernel_rfl) (by kernel_rfl) ((Nx.refl _).drew) (((Nx.refl _).drew).alloc _) ?_; simp only [List.take_succ_cons, List.take_zero, List.drop_succ_cons, List.drop_zero]; (repeat (refine wpRd_step (fun K hK => ?_); go_simp; first | (refine hK _ ?_; clear hK K) | (apply Exists.intro; refine ⟨fun w' hw' => ?_, hK _ ?_⟩; (first | (with_reducible rfl) | (rw [((((Nx.refl w).alloc _).alloc _).trans hw').cell a1]; exact ⟨rfl, rfl⟩) | (rw [((((Nx.refl w).alloc _).alloc _).trans hw').cell a2]; exact ⟨rfl, rfl⟩) | (obtain ⟨hc, hf⟩ := nx_cells hw'; go_simp; with_reducible rfl) | (obtain ⟨hc, hf⟩ := nx_cells hw'; go_simp; rfl)); clear hK K))); refine wpRd_nil ?_; refine ⟨_, ?_, rfl, ?_, ?_, ?_⟩; rotate_left; (first | rfl | simp [Region.wanted]); (go_simp; first | rfl | exact ⟨rfl, rfl⟩); show wpList _ _ _ _ _ _)
  go_wp2_with fail
  refine (CR.out _ (((((Nx.refl w).alloc _).alloc _).drew).alloc _)).mono ?_
  rintro e w2 ⟨rfl, hn2⟩
  obtain ⟨k4, k6, k7, hx⟩ := opd_has hn2
  clear hn2
  have hn0 : decide ((n : Int) ≥ 0) = true := decide_eq_true (by omega)
  go_wp2_with fail
  refine (CE.out _ hx).mono ?_
  rintro e w3 ⟨rfl, hn3⟩
  have K4 := Lib.hid (k4.nx hn3)
  have K6 := Lib.hid (k6.nx hn3)
  have K7 := Lib.hid (k7.nx hn3)
  have HX := Lib.hid (hx.trans hn3)
  clear hn3 hx k4 k6 k7
  have sc0 := K7.out.cell 0 _ rfl
  have sc1 := K7.out.cell 1 _ rfl
  have sc2 := K7.out.cell 2 _ rfl
  have sc3 := K7.out.cell 3 _ rfl
  have sc4 := K7.out.cell 4 _ rfl
  have sc5 := K7.out.cell 5 _ rfl
  have sf0 := K7.out.free 0
  have sf1 := K7.out.free 1
  have sf2 := K7.out.free 2
  have sf3 := K7.out.free 3
  have sf4 := K7.out.free 4
  have sf5 := K7.out.free 5
  have sz := K7.out.lt
  go_wp2_with fail
  refine (CR.out _ (HX.out.setCell le2 _)).mono ?_
  rintro e w4 ⟨rfl, hn4⟩
  have K4 := Lib.hid ((K4.out.far ne02 _).nx hn4)
  have K6 := Lib.hid ((K6.out.far ne12 _).nx hn4)
  have K7 := Lib.hid ((K7.out.put 0 (.int .i64 1)).nx hn4)
  have HX := Lib.hid ((HX.out.setCell le2 _).trans hn4)
  clear hn4
  clear sc0 sc1 sc2 sc3 sc4 sc5 sf0 sf1 sf2 sf3 sf4 sf5 sz
  have sc0 := K7.out.cell 0 _ rfl
  have sc1 := K7.out.cell 1 _ rfl
  have sc2 := K7.out.cell 2 _ rfl
  have sc3 := K7.out.cell 3 _ rfl
  have sc4 := K7.out.cell 4 _ rfl
  have sc5 := K7.out.cell 5 _ rfl
  have sf0 := K7.out.free 0
  have sf1 := K7.out.free 1
  have sf2 := K7.out.free 2
  have sf3 := K7.out.free 3
  have sf4 := K7.out.free 4
  have sf5 := K7.out.free 5
  have sz := K7.out.lt
  have pc0 := K4.out.cell 0 _ rfl
  have pc1 := K4.out.cell 1 _ rfl
  have pc2 := K4.out.cell 2 _ rfl
  have pc3 := K4.out.cell 3 _ rfl
  have pc4 := K4.out.cell 4 _ rfl
  have pc5 := K4.out.cell 5 _ rfl
  have pf0 := K4.out.free 0
  have pf1 := K4.out.free 1
  have pf2 := K4.out.free 2
  have pf3 := K4.out.free 3
  have pf4 := K4.out.free 4
  have pf5 := K4.out.free 5
  have pz := K4.out.lt
  have qc0 := K6.out.cell 0 _ rfl
  have qc1 := K6.out.cell 1 _ rfl
  have qc2 := K6.out.cell 2 _ rfl
  have qf0 := K6.out.free 0
  have qf1 := K6.out.free 1
  have qf2 := K6.out.free 2
  have qz := K6.out.lt
  go_wp2
  refine bodyPost_ret (v := .tuple #[argV 1 ln cl n (.slice none 0 0), .int .i64 ((i : Int) + 1), .agg #[.int .i64 0, .int .i64 0, .int .i64 0]]) (by simp [results, Tryz.results22, go_sem, pc0, pc1, pc2, pc3, pc4, pc5, pf0, pf1, pf2, pf3, pf4, pf5, qc0, qc1, qc2, qf0, qf1, qf2, sc0, sc1, sc2, sc3, sc4, sc5, sf0, sf1, sf2, sf3, sf4, sf5, pz, qz, sz]) rfl ?_
  exact ⟨ln, cl, .slice none 0 0, by rw [show ((i + 1 : Nat) : Int) = (i : Int) + 1 by omega], by repeat (with_reducible first | exact HX.out | refine Nx.setCell ?_ (Nat.le_refl _) _ | refine Nx.setCell ?_ (Nat.le_succ _) _ | refine Nx.setCell ?_ le2 _), Nods.nil _, fun g hg => by cases hg⟩

theorem toks_drop {w : World} {g o c : Nat} {l : List Tok} (hT : TokAt w g o l) (hc : l.length ≤ c) (hm : c ≤ maxLen) (i : Nat) (hi : i ≤ l.length) : Toks w (.slice (some ⟨g, o + i * 6, none⟩) (l.length - i) (c - i)) (l.drop i) := by
  refine Or.inr ⟨g, o + i * 6, c - i, by rw [List.length_drop], by rw [List.length_drop]; omega, by omega, fun k t hk j v hv => ?_⟩
  rw [List.getElem?_drop] at hk
  have := hT (i + k) t hk j v hv
  rw [show o + i * 6 + k * 6 + j = o + (i + k) * 6 + j by omega]
  exact this

theorem Nods.far {w : World} {v : Value} {l : List Nod} {B : Nat} (h : Nods w v l) (hb : ∀ g, v.ownBlock = some g → B < g) {p : Addr} (hp : p.block ≤ B) (u : Value) : Nods (w.setCell p u) v l :=
  h.kept fun g hg => Below.heap_setCell w p u g (fun e => by have := hb g hg; omega)

set_option maxHeartbeats 8000000 in
set_option maxRecDepth 100000 in
theorem opd_plain (v : Value) (l : List Tok) (i j : Nat) (t : Tok) (fin : List Nod) (rest : List Tok) (w : World) (hT : Toks w v l) (hl : l.length ≤ 100000) (ht : l[i]? = some t) (h6 : (t.kind == 6) = false) (hr : regA l i = -1) (hm : markB l i [40] = false) (hF : Fut fin rest true (l.drop i) [] none) (hj : j + rest.length = l.length) (hm1 : markB l j [40] = false) :
    Calls Tryz.prog 22 #[v, .int .i64 i] w (RetOpn 2 0 fin j w) := by
  have hlt := (List.getElem?_eq_some_iff.1 ht).1
  have CR := Lib.hid (fun w' (h : Nx w w') => hr ▸ reg16_any v l i w' (hT.nx h) hl (by omega))
  have CM := Lib.hid (fun w' (h : Nx w w') => hm ▸ mark_any v l i [40] w' (hT.nx h) hl (by omega))
  have CJ := Lib.hid (fun w' (h : Nx w w') => hm1 ▸ mark_any v l j [40] w' (hT.nx h) hl (by omega))
  have HJ := Lib.hid (show (j : Int) = (l.length : Int) - rest.length by omega)
  rw [HJ.out] at CJ
  obtain ⟨A, c, rfl, hc1, hc2, hA⟩ := hT.form
  obtain ⟨g, o, rfl, hTA⟩ : ∃ g o, A = some ⟨g, o, none⟩ ∧ TokAt w g o l := by
    rcases hA with ⟨_, h, _⟩ | h
    · subst h; cases ht
    · exact h
  have CP := Lib.hid (fun w' (h : Nx w w') => par_any _ (l.drop i) fin rest w' (toks_drop (hTA.nx h) hc1 hc2 i (by omega)) (by rw [List.length_drop]; omega) hF)
  obtain ⟨a0, a1, a2, a3, a4, a5⟩ := hTA.at_ i t ht
  obtain ⟨kd, ln, cl, tx, nm, sc⟩ := t
  dsimp only at a0 a1 a2 a3 a4 a5 h6
  have hiI : (i : Int) < l.length := by omega
  have hrl : (rest.length : Int) ≤ l.length := by omega
  have hlI : (l.length : Int) ≤ 100000 := by omega
  have le2 : w.heap.size ≤ (⟨w.heap.size + 1 + 1, 0, none⟩ : Addr).block := by show w.heap.size ≤ w.heap.size + 1 + 1; omega
  have ne02 : w.heap.size ≠ (⟨w.heap.size + 1 + 1, 0, none⟩ : Addr).block := by show w.heap.size ≠ w.heap.size + 1 + 1; omega
  have ne12 : w.heap.size + 1 ≠ (⟨w.heap.size + 1 + 1, 0, none⟩ : Addr).block := by show w.heap.size + 1 ≠ w.heap.size + 1 + 1; omega
  have hg : g < w.heap.size := block_lt a0
  have hg1 : g < w.heap.size + 1 := by omega
  have hg2 : g < w.heap.size + 1 + 1 := by omega
  have hg3 : g ≠ w.heap.size := by omega
  have hg4 : g ≠ w.heap.size + 1 := by omega
  have hg5 : g ≠ w.heap.size + 1 + 1 := by omega
  clear hT hA hTA ht a3 a4 a5 hr hm hF hm1 hj
  unfold maxLen at hc2
  go_enter Tryz.func22, Tryz.ntmps22
  go_wp2
  (refine wp_region_mk 11 (Nx _) ((((w.alloc (.cells #[.int .i64 0, .int .i64 0, .int .i64 0, .int .i64 0, .slice none 0 0, .string (B [])] 71)).alloc (.cells #[.int .i64 0, .int .i64 0, .int .i64 0] 29)).drew).alloc (.cells #[.int .i64 0, .int .i64 0, .int .i64 0, .int .i64 0, .slice none 0 0, .string (B [])] 71)) (by kernel_rfl) (by kernel_rfl) ((Nx.refl _).drew) (((Nx.refl _).drew).alloc _) ?_; simp only [List.take_succ_cons, List.take_zero, List.drop_succ_cons, List.drop_zero]; (repeat (refine wpRd_step (fun K hK => ?_); go_simp; first | (refine hK _ ?_; clear hK K) | (apply Exists.intro; refine ⟨fun w' hw' => ?_, hK _ ?_⟩; (first | (with_reducible rfl) | (rw [((((Nx.refl w).alloc _).alloc _).trans hw').cell a1]; exact ⟨rfl, rfl⟩) | (rw [((((Nx.refl w).alloc _).alloc _).trans hw').cell a2]; exact ⟨rfl, rfl⟩) | (obtain ⟨hc, hf⟩ := nx_cells hw'; go_simp; with_reducible rfl) | (obtain ⟨hc, hf⟩ := nx_cells hw'; go_simp; rfl)); clear hK K))); refine wpRd_nil ?_; refine ⟨_, ?_, rfl, ?_, ?_, ?_⟩; rotate_left; (first | rfl | simp [Region.wanted]); (go_simp; first | rfl | exact ⟨rfl, rfl⟩); show wpList _ _ _ _ _ _)
  go_wp2_with fail
  refine (CR.out _ (((((Nx.refl w).alloc _).alloc _).drew).alloc _)).mono ?_
  rintro e w2 ⟨rfl, hn2⟩
  obtain ⟨k4, k6, k7, hx⟩ := opd_has hn2
  clear hn2
  go_wp2_with fail
  refine (CM.out _ hx).mono ?_
  rintro e w3 ⟨rfl, hn3⟩
  have K4 := Lib.hid (k4.nx hn3)
  have K6 := Lib.hid (k6.nx hn3)
  have K7 := Lib.hid (k7.nx hn3)
  have HX := Lib.hid (hx.trans hn3)
  clear hn3 hx k4 k6 k7
  go_wp2_with fail
  refine (CP.out _ HX.out).mono ?_
  rintro e w5 ⟨nv, A5, c5, rfl, hn5, hN, hfr⟩
  obtain ⟨An, cn, rfl, _, _, _⟩ := hN.form
  have FR := Lib.hid (show ∀ g, (Value.slice An fin.length cn).ownBlock = some g → w.heap.size + 1 + 1 < g from fun g hg => Nat.lt_of_lt_of_le K7.out.lt (hfr g hg).1)
  have F2 := Lib.hid (show ∀ g, (Value.slice An fin.length cn).ownBlock = some g → g < w5.heap.size from fun g hg => (hfr g hg).2)
  have K4 := Lib.hid (K4.out.nx hn5)
  have K6 := Lib.hid (K6.out.nx hn5)
  have K7 := Lib.hid (K7.out.nx hn5)
  have HX := Lib.hid (HX.out.trans hn5)
  have HNN := Lib.hid hN
  clear hn5 hN hfr
  have sc0 := K7.out.cell 0 _ rfl
  have sc1 := K7.out.cell 1 _ rfl
  have sc2 := K7.out.cell 2 _ rfl
  have sc3 := K7.out.cell 3 _ rfl
  have sc4 := K7.out.cell 4 _ rfl
  have sc5 := K7.out.cell 5 _ rfl
  have sf0 := K7.out.free 0
  have sf1 := K7.out.free 1
  have sf2 := K7.out.free 2
  have sf3 := K7.out.free 3
  have sf4 := K7.out.free 4
  have sf5 := K7.out.free 5
  have sz := K7.out.lt
  go_wp2_with fail
  refine (CJ.out _ (((HX.out.setCell (p := ⟨w.heap.size + 1 + 1, 0, none⟩) le2 (.int .i64 2)).setCell (p := ⟨w.heap.size + 1 + 1, 4, none⟩) le2 (.slice An fin.length cn)).alloc _)).mono ?_
  rintro e w6 ⟨rfl, hn⟩
  have K4 := Lib.hid ((K4.out.far (p := ⟨w.heap.size + 1 + 1, 0, none⟩) ne02 _ |>.far (p := ⟨w.heap.size + 1 + 1, 4, none⟩) ne02 _ |>.alloc _).nx hn)
  have K6 := Lib.hid ((K6.out.far (p := ⟨w.heap.size + 1 + 1, 0, none⟩) ne12 _ |>.far (p := ⟨w.heap.size + 1 + 1, 4, none⟩) ne12 _ |>.alloc _).nx hn)
  have K7 := Lib.hid ((K7.out.put 0 (.int .i64 2) |>.put 4 (.slice An fin.length cn) |>.alloc _).nx hn)
  have HX := Lib.hid (Nx.trans (((HX.out.setCell (p := ⟨w.heap.size + 1 + 1, 0, none⟩) le2 (.int .i64 2)).setCell (p := ⟨w.heap.size + 1 + 1, 4, none⟩) le2 (.slice An fin.length cn)).alloc _) hn)
  have HNN := Lib.hid ((HNN.out.far FR.out (p := ⟨w.heap.size + 1 + 1, 0, none⟩) (Nat.le_refl _) _ |>.far FR.out (p := ⟨w.heap.size + 1 + 1, 4, none⟩) (Nat.le_refl _) _ |>.nx ((Nx.refl _).alloc _)).nx hn)
  have F2 := Lib.hid (show ∀ g, (Value.slice An fin.length cn).ownBlock = some g → g < w6.heap.size from fun g hg => Nat.lt_of_lt_of_le (F2.out g hg) (by have := hn.size; simpa using (show _ ≤ _ from (by simp at this; omega))))
  clear hn
  clear sc0 sc1 sc2 sc3 sc4 sc5 sf0 sf1 sf2 sf3 sf4 sf5 sz
  have sc0 := K7.out.cell 0 _ rfl
  have sc1 := K7.out.cell 1 _ rfl
  have sc2 := K7.out.cell 2 _ rfl
  have sc3 := K7.out.cell 3 _ rfl
  have sc4 := K7.out.cell 4 _ rfl
  have sc5 := K7.out.cell 5 _ rfl
  have sf0 := K7.out.free 0
  have sf1 := K7.out.free 1
  have sf2 := K7.out.free 2
  have sf3 := K7.out.free 3
  have sf4 := K7.out.free 4
  have sf5 := K7.out.free 5
  have sz := K7.out.lt
  have pc0 := K4.out.cell 0 _ rfl
  have pc1 := K4.out.cell 1 _ rfl
  have pc2 := K4.out.cell 2 _ rfl
  have pc3 := K4.out.cell 3 _ rfl
  have pc4 := K4.out.cell 4 _ rfl
  have pc5 := K4.out.cell 5 _ rfl
  have pf0 := K4.out.free 0
  have pf1 := K4.out.free 1
  have pf2 := K4.out.free 2
  have pf3 := K4.out.free 3
  have pf4 := K4.out.free 4
  have pf5 := K4.out.free 5
  have pz := K4.out.lt
  have qc0 := K6.out.cell 0 _ rfl
  have qc1 := K6.out.cell 1 _ rfl
  have qc2 := K6.out.cell 2 _ rfl
  have qf0 := K6.out.free 0
  have qf1 := K6.out.free 1
  have qf2 := K6.out.free 2
  have qz := K6.out.lt
  go_wp2
  refine bodyPost_ret (v := .tuple #[argV 2 ln cl 0 (.slice An fin.length cn), .int .i64 ((l.length : Int) - rest.length), .agg #[.int .i64 0, .int .i64 0, .int .i64 0]]) (by simp [results, Tryz.results22, go_sem, pc0, pc1, pc2, pc3, pc4, pc5, pf0, pf1, pf2, pf3, pf4, pf5, qc0, qc1, qc2, qf0, qf1, qf2, sc0, sc1, sc2, sc3, sc4, sc5, sf0, sf1, sf2, sf3, sf4, sf5, pz, qz, sz]) rfl ?_
  have HF2 := Lib.hid (show ∀ g, (Value.slice An fin.length cn).ownBlock = some g → w.heap.size ≤ g from fun g hg => by have := FR.out g hg; omega)
  have lt0 : ∀ {k : Nat}, (⟨w.heap.size, k, none⟩ : Addr).block ≤ w.heap.size + 1 + 1 := fun {k} => by show w.heap.size ≤ _; omega
  have lt1 : ∀ {k : Nat}, (⟨w.heap.size + 1, k, none⟩ : Addr).block ≤ w.heap.size + 1 + 1 := fun {k} => by show w.heap.size + 1 ≤ _; omega
  have lt2 : ∀ {k : Nat}, (⟨w.heap.size + 1 + 1, k, none⟩ : Addr).block ≤ w.heap.size + 1 + 1 := fun {k} => Nat.le_refl _
  refine ⟨ln, cl, .slice An fin.length cn, by rw [HJ.out], by repeat (with_reducible first | exact HX.out | refine Nx.setCell ?_ (Nat.le_refl _) _ | refine Nx.setCell ?_ (Nat.le_succ _) _ | refine Nx.setCell ?_ le2 _), by repeat (with_reducible first | exact HNN.out | refine Nods.far ?_ FR.out lt0 _ | refine Nods.far ?_ FR.out lt1 _ | refine Nods.far ?_ FR.out lt2 _), fun g hg => ⟨HF2.out g hg, ?_⟩⟩
  have := F2.out g hg
  simpa using this

set_option maxHeartbeats 8000000 in
set_option maxRecDepth 100000 in
theorem opd_mem (v : Value) (l : List Tok) (i j : Nat) (t : Tok) (fin : List Nod) (rest : List Tok) (w : World) (hT : Toks w v l) (hl : l.length ≤ 100000) (ht : l[i]? = some t) (h6 : (t.kind == 6) = false) (hr : regA l i = -1) (hm : markB l i [40] = false) (hF : Fut fin rest true (l.drop i) [] none) (hj : j + rest.length = l.length) (n : Nat) (hm1 : markB l j [40] = true) (hr1 : regA l (j + 1) = n) (hm2 : markB l (j + 2) [41] = true) :
    Calls Tryz.prog 22 #[v, .int .i64 i] w (RetOpn 3 n fin (j + 3) w) := by
  have hlt := (List.getElem?_eq_some_iff.1 ht).1
  have CR := Lib.hid (fun w' (h : Nx w w') => hr ▸ reg16_any v l i w' (hT.nx h) hl (by omega))
  have CM := Lib.hid (fun w' (h : Nx w w') => hm ▸ mark_any v l i [40] w' (hT.nx h) hl (by omega))
  have CJ := Lib.hid (fun w' (h : Nx w w') => hm1 ▸ mark_any v l j [40] w' (hT.nx h) hl (by omega))
  have CK := Lib.hid (fun w' (h : Nx w w') => hr1 ▸ reg16_any v l (j + 1) w' (hT.nx h) hl (by omega))
  have CL := Lib.hid (fun w' (h : Nx w w') => hm2 ▸ mark_any v l (j + 2) [41] w' (hT.nx h) hl (by omega))
  have HJ := Lib.hid (show (j : Int) = (l.length : Int) - rest.length by omega)
  rw [HJ.out] at CJ
  rw [show ((j + 1 : Nat) : Int) = (l.length : Int) - rest.length + 1 by omega] at CK
  rw [show ((j + 2 : Nat) : Int) = (l.length : Int) - rest.length + 2 by omega] at CL
  obtain ⟨A, c, rfl, hc1, hc2, hA⟩ := hT.form
  obtain ⟨g, o, rfl, hTA⟩ : ∃ g o, A = some ⟨g, o, none⟩ ∧ TokAt w g o l := by
    rcases hA with ⟨_, h, _⟩ | h
    · subst h; cases ht
    · exact h
  have CP := Lib.hid (fun w' (h : Nx w w') => par_any _ (l.drop i) fin rest w' (toks_drop (hTA.nx h) hc1 hc2 i (by omega)) (by rw [List.length_drop]; omega) hF)
  obtain ⟨a0, a1, a2, a3, a4, a5⟩ := hTA.at_ i t ht
  obtain ⟨kd, ln, cl, tx, nm, sc⟩ := t
  dsimp only at a0 a1 a2 a3 a4 a5 h6
  have hiI : (i : Int) < l.length := by omega
  have hrl : (rest.length : Int) ≤ l.length := by omega
  have hlI : (l.length : Int) ≤ 100000 := by omega
  have le2 : w.heap.size ≤ (⟨w.heap.size + 1 + 1, 0, none⟩ : Addr).block := by show w.heap.size ≤ w.heap.size + 1 + 1; omega
  have ne02 : w.heap.size ≠ (⟨w.heap.size + 1 + 1, 0, none⟩ : Addr).block := by show w.heap.size ≠ w.heap.size + 1 + 1; omega
  have ne12 : w.heap.size + 1 ≠ (⟨w.heap.size + 1 + 1, 0, none⟩ : Addr).block := by show w.heap.size + 1 ≠ w.heap.size + 1 + 1; omega
  have hg : g < w.heap.size := block_lt a0
  have hg1 : g < w.heap.size + 1 := by omega
  have hg2 : g < w.heap.size + 1 + 1 := by omega
  have hg3 : g ≠ w.heap.size := by omega
  have hg4 : g ≠ w.heap.size + 1 := by omega
  have hg5 : g ≠ w.heap.size + 1 + 1 := by omega
  clear hT hA hTA ht a3 a4 a5 hr hm hF hm1 hj hr1 hm2
  unfold maxLen at hc2
  go_enter Tryz.func22, Tryz.ntmps22
  go_wp2
  (refine wp_region_mk 11 (Nx _) ((((w.alloc (.cells #[.int .i64 0, .int .i64 0, .int .i64 0, .int .i64 0, .slice none 0 0, .string (B [])] 71)).alloc (.cells #[.int .i64 0, .int .i64 0, .int .i64 0] 29)).drew).alloc (.cells #[.int .i64 0, .int .i64 0, .int .i64 0, .int .i64 0, .slice none 0 0, .string (B [])] 71)) (by kernel_rfl) (by kernel_rfl) ((Nx.refl _).drew) (((Nx.refl _).drew).alloc _) ?_; simp only [List.take_succ_cons, List.take_zero, List.drop_succ_cons, List.drop_zero]; (repeat (refine wpRd_step (fun K hK => ?_); go_simp; first | (refine hK _ ?_; clear hK K) | (apply Exists.intro; refine ⟨fun w' hw' => ?_, hK _ ?_⟩; (first | (with_reducible rfl) | (rw [((((Nx.refl w).alloc _).alloc _).trans hw').cell a1]; exact ⟨rfl, rfl⟩) | (rw [((((Nx.refl w).alloc _).alloc _).trans hw').cell a2]; exact ⟨rfl, rfl⟩) | (obtain ⟨hc, hf⟩ := nx_cells hw'; go_simp; with_reducible rfl) | (obtain ⟨hc, hf⟩ := nx_cells hw'; go_simp; rfl)); clear hK K))); refine wpRd_nil ?_; refine ⟨_, ?_, rfl, ?_, ?_, ?_⟩; rotate_left; (first | rfl | simp [Region.wanted]); (go_simp; first | rfl | exact ⟨rfl, rfl⟩); show wpList _ _ _ _ _ _)
  go_wp2_with fail
  refine (CR.out _ (((((Nx.refl w).alloc _).alloc _).drew).alloc _)).mono ?_
  rintro e w2 ⟨rfl, hn2⟩
  obtain ⟨k4, k6, k7, hx⟩ := opd_has hn2
  clear hn2
  go_wp2_with fail
  refine (CM.out _ hx).mono ?_
  rintro e w3 ⟨rfl, hn3⟩
  have K4 := Lib.hid (k4.nx hn3)
  have K6 := Lib.hid (k6.nx hn3)
  have K7 := Lib.hid (k7.nx hn3)
  have HX := Lib.hid (hx.trans hn3)
  clear hn3 hx k4 k6 k7
  go_wp2_with fail
  refine (CP.out _ HX.out).mono ?_
  rintro e w5 ⟨nv, A5, c5, rfl, hn5, hN, hfr⟩
  obtain ⟨An, cn, rfl, _, _, _⟩ := hN.form
  have FR := Lib.hid (show ∀ g, (Value.slice An fin.length cn).ownBlock = some g → w.heap.size + 1 + 1 < g from fun g hg => Nat.lt_of_lt_of_le K7.out.lt (hfr g hg).1)
  have F2 := Lib.hid (show ∀ g, (Value.slice An fin.length cn).ownBlock = some g → g < w5.heap.size from fun g hg => (hfr g hg).2)
  have K4 := Lib.hid (K4.out.nx hn5)
  have K6 := Lib.hid (K6.out.nx hn5)
  have K7 := Lib.hid (K7.out.nx hn5)
  have HX := Lib.hid (HX.out.trans hn5)
  have HNN := Lib.hid hN
  clear hn5 hN hfr
  have sc0 := K7.out.cell 0 _ rfl
  have sc1 := K7.out.cell 1 _ rfl
  have sc2 := K7.out.cell 2 _ rfl
  have sc3 := K7.out.cell 3 _ rfl
  have sc4 := K7.out.cell 4 _ rfl
  have sc5 := K7.out.cell 5 _ rfl
  have sf0 := K7.out.free 0
  have sf1 := K7.out.free 1
  have sf2 := K7.out.free 2
  have sf3 := K7.out.free 3
  have sf4 := K7.out.free 4
  have sf5 := K7.out.free 5
  have sz := K7.out.lt
  go_wp2_with fail
  refine (CJ.out _ (((HX.out.setCell (p := ⟨w.heap.size + 1 + 1, 0, none⟩) le2 (.int .i64 2)).setCell (p := ⟨w.heap.size + 1 + 1, 4, none⟩) le2 (.slice An fin.length cn)).alloc _)).mono ?_
  rintro e w6 ⟨rfl, hn⟩
  have K4 := Lib.hid ((K4.out.far (p := ⟨w.heap.size + 1 + 1, 0, none⟩) ne02 _ |>.far (p := ⟨w.heap.size + 1 + 1, 4, none⟩) ne02 _ |>.alloc _).nx hn)
  have K6 := Lib.hid ((K6.out.far (p := ⟨w.heap.size + 1 + 1, 0, none⟩) ne12 _ |>.far (p := ⟨w.heap.size + 1 + 1, 4, none⟩) ne12 _ |>.alloc _).nx hn)
  have K7 := Lib.hid ((K7.out.put 0 (.int .i64 2) |>.put 4 (.slice An fin.length cn) |>.alloc _).nx hn)
  have HX := Lib.hid (Nx.trans (((HX.out.setCell (p := ⟨w.heap.size + 1 + 1, 0, none⟩) le2 (.int .i64 2)).setCell (p := ⟨w.heap.size + 1 + 1, 4, none⟩) le2 (.slice An fin.length cn)).alloc _) hn)
  have HNN := Lib.hid ((HNN.out.far FR.out (p := ⟨w.heap.size + 1 + 1, 0, none⟩) (Nat.le_refl _) _ |>.far FR.out (p := ⟨w.heap.size + 1 + 1, 4, none⟩) (Nat.le_refl _) _ |>.nx ((Nx.refl _).alloc _)).nx hn)
  have F2 := Lib.hid (show ∀ g, (Value.slice An fin.length cn).ownBlock = some g → g < w6.heap.size from fun g hg => Nat.lt_of_lt_of_le (F2.out g hg) (by have := hn.size; simpa using (show _ ≤ _ from (by simp at this; omega))))
  clear hn
  clear sc0 sc1 sc2 sc3 sc4 sc5 sf0 sf1 sf2 sf3 sf4 sf5 sz
  go_wp2_with fail
  refine (CK.out _ HX.out).mono ?_
  rintro e w7 ⟨rfl, hn⟩
  have K4 := Lib.hid ((K4.out).nx hn)
  have K6 := Lib.hid ((K6.out).nx hn)
  have K7 := Lib.hid ((K7.out).nx hn)
  have HX := Lib.hid (Nx.trans HX.out hn)
  have HNN := Lib.hid ((HNN.out).nx hn)
  have F2 := Lib.hid (show ∀ g, (Value.slice An fin.length cn).ownBlock = some g → g < w7.heap.size from fun g hg => Nat.lt_of_lt_of_le (F2.out g hg) (by have := hn.size; simpa using (show _ ≤ _ from (by omega))))
  clear hn
  have hn0 : decide ((n : Int) ≥ 0) = true := decide_eq_true (by omega)
  go_wp2_with fail
  refine (CL.out _ HX.out).mono ?_
  rintro e w8 ⟨rfl, hn⟩
  have K4 := Lib.hid ((K4.out).nx hn)
  have K6 := Lib.hid ((K6.out).nx hn)
  have K7 := Lib.hid ((K7.out).nx hn)
  have HX := Lib.hid (Nx.trans HX.out hn)
  have HNN := Lib.hid ((HNN.out).nx hn)
  have F2 := Lib.hid (show ∀ g, (Value.slice An fin.length cn).ownBlock = some g → g < w8.heap.size from fun g hg => Nat.lt_of_lt_of_le (F2.out g hg) (by have := hn.size; simpa using (show _ ≤ _ from (by omega))))
  clear hn
  have sc0 := K7.out.cell 0 _ rfl
  have sc1 := K7.out.cell 1 _ rfl
  have sc2 := K7.out.cell 2 _ rfl
  have sc3 := K7.out.cell 3 _ rfl
  have sc4 := K7.out.cell 4 _ rfl
  have sc5 := K7.out.cell 5 _ rfl
  have sf0 := K7.out.free 0
  have sf1 := K7.out.free 1
  have sf2 := K7.out.free 2
  have sf3 := K7.out.free 3
  have sf4 := K7.out.free 4
  have sf5 := K7.out.free 5
  have sz := K7.out.lt
  go_wp2_with fail
  refine (CK.out _ (HX.out.setCell (p := ⟨w.heap.size + 1 + 1, 0, none⟩) le2 (.int .i64 3))).mono ?_
  rintro e w9 ⟨rfl, hn⟩
  have K4 := Lib.hid ((K4.out.far (p := ⟨w.heap.size + 1 + 1, 0, none⟩) ne02 _).nx hn)
  have K6 := Lib.hid ((K6.out.far (p := ⟨w.heap.size + 1 + 1, 0, none⟩) ne12 _).nx hn)
  have K7 := Lib.hid ((K7.out.put 0 (.int .i64 3)).nx hn)
  have HX := Lib.hid (Nx.trans (HX.out.setCell (p := ⟨w.heap.size + 1 + 1, 0, none⟩) le2 (.int .i64 3)) hn)
  have HNN := Lib.hid ((HNN.out.far FR.out (p := ⟨w.heap.size + 1 + 1, 0, none⟩) (Nat.le_refl _) _).nx hn)
  have F2 := Lib.hid (show ∀ g, (Value.slice An fin.length cn).ownBlock = some g → g < w9.heap.size from fun g hg => Nat.lt_of_lt_of_le (F2.out g hg) (by have := hn.size; simpa using (show _ ≤ _ from (by simp at this; omega))))
  clear hn
  clear sc0 sc1 sc2 sc3 sc4 sc5 sf0 sf1 sf2 sf3 sf4 sf5 sz
  have sc0 := K7.out.cell 0 _ rfl
  have sc1 := K7.out.cell 1 _ rfl
  have sc2 := K7.out.cell 2 _ rfl
  have sc3 := K7.out.cell 3 _ rfl
  have sc4 := K7.out.cell 4 _ rfl
  have sc5 := K7.out.cell 5 _ rfl
  have sf0 := K7.out.free 0
  have sf1 := K7.out.free 1
  have sf2 := K7.out.free 2
  have sf3 := K7.out.free 3
  have sf4 := K7.out.free 4
  have sf5 := K7.out.free 5
  have sz := K7.out.lt
  have pc0 := K4.out.cell 0 _ rfl
  have pc1 := K4.out.cell 1 _ rfl
  have pc2 := K4.out.cell 2 _ rfl
  have pc3 := K4.out.cell 3 _ rfl
  have pc4 := K4.out.cell 4 _ rfl
  have pc5 := K4.out.cell 5 _ rfl
  have pf0 := K4.out.free 0
  have pf1 := K4.out.free 1
  have pf2 := K4.out.free 2
  have pf3 := K4.out.free 3
  have pf4 := K4.out.free 4
  have pf5 := K4.out.free 5
  have pz := K4.out.lt
  have qc0 := K6.out.cell 0 _ rfl
  have qc1 := K6.out.cell 1 _ rfl
  have qc2 := K6.out.cell 2 _ rfl
  have qf0 := K6.out.free 0
  have qf1 := K6.out.free 1
  have qf2 := K6.out.free 2
  have qz := K6.out.lt
  go_wp2
  refine bodyPost_ret (v := .tuple #[argV 3 ln cl n (.slice An fin.length cn), .int .i64 ((l.length : Int) - rest.length + 3), .agg #[.int .i64 0, .int .i64 0, .int .i64 0]]) (by simp [results, Tryz.results22, go_sem, pc0, pc1, pc2, pc3, pc4, pc5, pf0, pf1, pf2, pf3, pf4, pf5, qc0, qc1, qc2, qf0, qf1, qf2, sc0, sc1, sc2, sc3, sc4, sc5, sf0, sf1, sf2, sf3, sf4, sf5, pz, qz, sz]) rfl ?_
  have HF2 := Lib.hid (show ∀ g, (Value.slice An fin.length cn).ownBlock = some g → w.heap.size ≤ g from fun g hg => by have := FR.out g hg; omega)
  have lt0 : ∀ {k : Nat}, (⟨w.heap.size, k, none⟩ : Addr).block ≤ w.heap.size + 1 + 1 := fun {k} => by show w.heap.size ≤ _; omega
  have lt1 : ∀ {k : Nat}, (⟨w.heap.size + 1, k, none⟩ : Addr).block ≤ w.heap.size + 1 + 1 := fun {k} => by show w.heap.size + 1 ≤ _; omega
  have lt2 : ∀ {k : Nat}, (⟨w.heap.size + 1 + 1, k, none⟩ : Addr).block ≤ w.heap.size + 1 + 1 := fun {k} => Nat.le_refl _
  refine ⟨ln, cl, .slice An fin.length cn, by rw [show ((j + 3 : Nat) : Int) = (l.length : Int) - rest.length + 3 by have := HJ.out; omega], by repeat (with_reducible first | exact HX.out | refine Nx.setCell ?_ (Nat.le_refl _) _ | refine Nx.setCell ?_ (Nat.le_succ _) _ | refine Nx.setCell ?_ le2 _), by repeat (with_reducible first | exact HNN.out | refine Nods.far ?_ FR.out lt0 _ | refine Nods.far ?_ FR.out lt1 _ | refine Nods.far ?_ FR.out lt2 _), fun g hg => ⟨HF2.out g hg, ?_⟩⟩
  have := F2.out g hg
  simpa using this

end Go.Proofs.YtdgmdkkockbkjaaGreatDoor

/- Contract of typecaseref16.operand: the operand at a place of a text's tokens. -/
namespace Go.Proofs.YtdgmdkkockbkjaaGreatDoor
open Go.RowKit
set_option linter.unusedVariables false
set_option linter.unusedSimpArgs false

theorem key_at {l : List Tok} {i : Nat} {k : Int × List UInt8 × Int} {ks : List (Int × List UInt8 × Int)} (h : (l.drop i).map keyT = k :: ks) : ∃ t, l[i]? = some t ∧ keyT t = k ∧ (l.drop (i + 1)).map keyT = ks := by
  obtain ⟨t, r, h1, h2, h3⟩ := map_inv h
  obtain ⟨hlt, h4, h5⟩ := drop_tok h1
  exact ⟨t, h4, h2, by rw [h5]; exact h3⟩

theorem key_nil {l : List Tok} {i : Nat} (h : (l.drop i).map keyT = []) : l.length ≤ i := by
  have := congrArg List.length h
  simp at this
  omega

theorem key_len {l : List Tok} {i : Nat} {ks : List (Int × List UInt8 × Int)} (h : (l.drop i).map keyT = ks) : l.length - i = ks.length := by
  have := congrArg List.length h
  simpa using this

theorem mark_yes {l : List Tok} {i : Nat} {s : List UInt8} {ks : List (Int × List UInt8 × Int)} (h : (l.drop i).map keyT = (7, s, 0) :: ks) : markB l i s = true := by
  obtain ⟨t, h1, h2, _⟩ := key_at h
  obtain ⟨a, b, _⟩ := keyT_inv h2
  unfold markB
  rw [h1]
  show ((t.kind == 7) && (t.text == s)) = true
  rw [a, b]
  simp

theorem mark_no {l : List Tok} {i : Nat} {s : List UInt8} {k : Int × List UInt8 × Int} {ks : List (Int × List UInt8 × Int)} (h : (l.drop i).map keyT = k :: ks) (hne : k.1 ≠ 7 ∨ k.2.1 ≠ s) : markB l i s = false := by
  obtain ⟨t, h1, h2, _⟩ := key_at h
  obtain ⟨a, b, _⟩ := keyT_inv (show keyT t = (k.1, k.2.1, k.2.2) from h2)
  unfold markB
  rw [h1]
  show ((t.kind == 7) && (t.text == s)) = false
  rw [a, b]
  rcases hne with h | h
  · rw [show (k.1 == 7) = false by simpa using h]; rfl
  · rw [show (k.2.1 == s) = false by simpa using h, Bool.and_false]

theorem mark_out {l : List Tok} {i : Nat} {s : List UInt8} (h : l.length ≤ i) : markB l i s = false := by
  unfold markB
  rw [List.getElem?_eq_none h]

/-- What stands behind an operand: nothing, or a comma. -/
def tailOk (ks : List (Int × List UInt8 × Int)) : Prop := ks = [] ∨ ∃ r, ks = (7, [44], 0) :: r

theorem tail_rest {ks : List (Int × List UInt8 × Int)} (h : tailOk ks) : restK ks := by
  rcases h with h | ⟨r, h⟩
  · exact Or.inl h
  · exact Or.inr ⟨44, r, h, Or.inr rfl⟩

theorem tail_ends {l : List Tok} {i : Nat} {ks : List (Int × List UInt8 × Int)} (h : (l.drop i).map keyT = ks) (hk : tailOk ks) : endsB l i = true ∧ markB l i [40] = false := by
  rcases hk with rfl | ⟨r, rfl⟩
  · have := key_nil h
    exact ⟨by unfold endsB; rw [decide_eq_true this]; rfl, mark_out this⟩
  · exact ⟨by unfold endsB; rw [mark_yes h, Bool.or_true], mark_no h (Or.inr (by decide))⟩

theorem reg_nm (n : Int) (h : regOk n) : regP (regNP n) = some n.toNat := by
  have h1 := h.1
  have h2 := h.2
  unfold regNP
  rw [if_neg (by omega)]
  have key : ∀ k, k < 32 → regT.getD k [] ∈ regNs k := by decide +kernel
  exact reg_found _ _ (by omega) (key n.toNat (by omega))

theorem reg_yes {l : List Tok} {i : Nat} {n z : Int} {ks : List (Int × List UInt8 × Int)} (h : (l.drop i).map keyT = (1, regNP n, z) :: ks) (hn : regOk n) : regA l i = (n.toNat : Nat) ∧ ((n.toNat : Nat) : Int) = n := by
  obtain ⟨t, h1, h2, _⟩ := key_at h
  obtain ⟨a, b, _⟩ := keyT_inv h2
  refine ⟨?_, by have := hn.1; omega⟩
  unfold regA
  rw [h1]
  dsimp only
  rw [if_pos a, b, reg_nm n hn]

theorem reg_no {l : List Tok} {i : Nat} {k : Int × List UInt8 × Int} {ks : List (Int × List UInt8 × Int)} (h : (l.drop i).map keyT = k :: ks) (hne : k.1 ≠ 1 ∨ regP k.2.1 = none) : regA l i = -1 := by
  obtain ⟨t, h1, h2, _⟩ := key_at h
  obtain ⟨a, b, _⟩ := keyT_inv (show keyT t = (k.1, k.2.1, k.2.2) from h2)
  unfold regA
  rw [h1]
  dsimp only
  by_cases h1 : t.kind = 1
  · rw [if_pos h1, b]
    rcases hne with h | h
    · rw [a] at h1; exact absurd h1 h
    · rw [h]
  · rw [if_neg h1]

theorem num_head (v : Int) (ks : List (Int × List UInt8 × Int)) : ∃ k r, numK v ++ ks = k :: r ∧ k.1 ≠ 1 ∧ k.1 ≠ 6 ∧ (k.1 ≠ 7 ∨ k.2.1 ≠ [40]) := by
  unfold numK
  split
  · exact ⟨_, _, rfl, by decide, by decide, Or.inr (by decide)⟩
  · exact ⟨_, _, rfl, by show (5 : Int) ≠ 1; decide, by show (5 : Int) ≠ 6; decide, Or.inl (by show (5 : Int) ≠ 7; decide)⟩

theorem numK_len (v : Int) : 1 ≤ (numK v).length := by unfold numK; split <;> simp

theorem opd_any (v : Value) (l : List Tok) (i : Nat) (o : Opd) (ks : List (Int × List UInt8 × Int)) (w : World) (hT : Toks w v l) (hl : l.length ≤ 100000) (hk : (l.drop i).map keyT = opK o ++ ks) (ho : opOk o) (hks : tailOk ks) :
    ∃ ns : List Nod, ns.map nodK = nodO o ∧ Calls Tryz.prog 22 #[v, .int .i64 i] w (RetOpn (kindO o) (rgO o) ns (i + (opK o).length) w) ∧ (l.drop (i + (opK o).length)).map keyT = ks := by
  have hdrop : (l.drop (i + (opK o).length)).map keyT = ks := by
    rw [← List.drop_drop, List.map_drop, hk, List.drop_left]
  have hlen := key_len hk
  rw [List.length_append] at hlen
  cases o with
  | reg n =>
    obtain ⟨h1, h2⟩ := reg_yes (show (l.drop i).map keyT = (1, regNP n, 0) :: ks from hk) ho
    obtain ⟨t, ht, hkt, hnext⟩ := key_at (show (l.drop i).map keyT = (1, regNP n, 0) :: ks from hk)
    obtain ⟨a, b, _⟩ := keyT_inv hkt
    have := opd_reg v l i n.toNat t w hT hl ht a h1 (tail_ends hnext hks).1
    rw [h2] at this
    exact ⟨[], rfl, this, hdrop⟩
  | imm x =>
    obtain ⟨ns, hns, hr, hf⟩ := fut_num x (l.drop i) ks hk (tail_rest hks)
    obtain ⟨k, r, he, c1, c2, c3⟩ := num_head x ks
    have hk2 := hk
    rw [show opK (.imm x) = numK x from rfl, he] at hk2
    obtain ⟨t, ht, hkt, _⟩ := key_at hk2
    obtain ⟨a, _, _⟩ := keyT_inv (show keyT t = (k.1, k.2.1, k.2.2) from hkt)
    have hn1 := numK_len x
    have hlen : l.length - i = (numK x).length + ks.length := hlen
    have := opd_plain v l i (i + (numK x).length) t ns _ w hT hl ht (by rw [a]; simpa using c2) (reg_no hk2 (Or.inl c1)) (mark_no hk2 c3) hf (by rw [List.length_drop, List.length_drop]; omega) (tail_ends hdrop hks).2
    exact ⟨ns, hns, this, hdrop⟩
  | mem x n =>
    have hk3 : (l.drop i).map keyT = numK x ++ ((7, [40], 0) :: (1, regNP n, 0) :: (7, [41], 0) :: ks) := by
      rw [hk]; show (numK x ++ [(7, [40], 0), (1, regNP n, 0), (7, [41], 0)]) ++ ks = _; simp
    obtain ⟨ns, hns, hr, hf⟩ := fut_num x (l.drop i) _ hk3 (Or.inr ⟨40, _, rfl, Or.inl rfl⟩)
    obtain ⟨k, r, he, c1, c2, c3⟩ := num_head x ((7, [40], 0) :: (1, regNP n, 0) :: (7, [41], 0) :: ks)
    have hk2 := hk3
    rw [he] at hk2
    obtain ⟨t, ht, hkt, _⟩ := key_at hk2
    obtain ⟨a, _, _⟩ := keyT_inv (show keyT t = (k.1, k.2.1, k.2.2) from hkt)
    have hlen : l.length - i = (numK x ++ [(7, [40], 0), (1, regNP n, 0), (7, [41], 0)]).length + ks.length := hlen
    rw [List.length_append] at hlen
    simp only [List.length_cons, List.length_nil] at hlen
    rw [List.drop_drop] at hr hf
    obtain ⟨_, _, _, q1⟩ := key_at hr
    obtain ⟨_, _, _, q2⟩ := key_at q1
    obtain ⟨g1, g2⟩ := reg_yes q1 ho.2
    have := opd_mem v l i (i + (numK x).length) t ns _ w hT hl ht (by rw [a]; simpa using c2) (reg_no hk2 (Or.inl c1)) (mark_no hk2 c3) hf (by rw [List.length_drop]; omega) n.toNat (mark_yes hr) g1 (mark_yes q2)
    rw [g2] at this
    refine ⟨ns, hns, ?_, hdrop⟩
    show Calls _ _ _ _ (RetOpn 3 n ns (i + (numK x ++ [(7, [40], 0), (1, regNP n, 0), (7, [41], 0)]).length) w)
    rw [List.length_append, show i + ((numK x).length + [((7 : Int), ([40] : List UInt8), (0 : Int)), (1, regNP n, 0), (7, [41], 0)].length) = i + (numK x).length + 3 by simp; omega]
    exact this
  | here x =>
    obtain ⟨ns, hns, hr, hf⟩ := fut_here x (l.drop i) ks hk (tail_rest hks)
    have hk2 : (l.drop i).map keyT = (1, [46], 0) :: ([(7, [if x < 0 then 45 else 43], 0), (5, [], (x.natAbs : Int))] ++ ks) := hk
    obtain ⟨t, ht, hkt, _⟩ := key_at hk2
    obtain ⟨a, _, _⟩ := keyT_inv hkt
    have hlen : l.length - i = 3 + ks.length := hlen
    have := opd_plain v l i (i + 3) t ns _ w hT hl ht (by rw [a]; decide) (reg_no hk2 (Or.inr (by decide +kernel))) (mark_no hk2 (Or.inl (by decide))) hf (by rw [List.length_drop, List.length_drop]; omega) (tail_ends hdrop hks).2
    exact ⟨ns, hns, this, hdrop⟩

end Go.Proofs.YtdgmdkkockbkjaaGreatDoor

/- Contracts of package block, and of typecaseref13: labels. -/
namespace Go.Proofs.YtdgmdkkockbkjaaGreatDoor
open Go.RowKit
set_option linter.unusedVariables false
set_option linter.unusedSimpArgs false

theorem labels_two (a b : Tok) (l : List Tok) : labelsP (a :: b :: l) = if (a.kind = 1 ∨ a.kind = 2) ∧ b.kind = 7 ∧ b.text = [58] then 2 + labelsP l else 0 := rfl

theorem labels_le : ∀ (n : Nat) (l : List Tok), l.length ≤ n → labelsP l ≤ l.length
  | 0, [], _ => Nat.le_refl _
  | n + 1, [], _ => Nat.le_refl _
  | n + 1, [a], _ => Nat.zero_le _
  | n + 1, a :: b :: l, h => by
    rw [labels_two]
    split
    · have := labels_le n l (by simp at h; omega)
      simp only [List.length_cons]; omega
    · exact Nat.zero_le _

theorem drop_two (l : List Tok) (k : Nat) (a b : Tok) (ha : l[k]? = some a) (hb : l[k + 1]? = some b) : l.drop k = a :: b :: l.drop (k + 2) := by
  obtain ⟨h1, e1⟩ := List.getElem?_eq_some_iff.1 ha
  obtain ⟨h2, e2⟩ := List.getElem?_eq_some_iff.1 hb
  rw [List.drop_eq_getElem_cons h1, List.drop_eq_getElem_cons h2, e1, e2]

theorem labels_short (l : List Tok) (k : Nat) (h : l.length ≤ k + 1) : labelsP (l.drop k) = 0 := by
  have : (l.drop k).length ≤ 1 := by rw [List.length_drop]; omega
  match hd : l.drop k, this with
  | [], _ => rfl
  | [a], _ => rfl

set_option maxHeartbeats 4000000 in
theorem rlabels_any (v : Value) (l : List Tok) (w : World) (hT : Toks w v l) (hb : l.length ≤ 1000000) : Calls Tryz.prog 18 #[v] w fun e w' => e = .returned (.int .i64 (labelsP l : Nat)) ∧ w = w' := by
  obtain ⟨A, c, rfl, hc1, hc2, hA⟩ := hT.form
  clear hT hc2
  obtain ⟨V, hV⟩ : ∃ V, V = labelsP l := ⟨_, rfl⟩
  rw [← hV]
  have HV := Lib.hid hV
  have HA := Lib.hid hA
  clear hV hA
  go_enter Tryz.func18, Tryz.ntmps18
  go_wp2
  go_loop [3] (fun i => ∃ k : Nat, k ≤ l.length ∧ i = .int .i64 k ∧ Hid (V = k + labelsP (l.drop k))) (fun i => l.length + 2 - (intOf i).toNat)
  case atStart => exact ⟨0, Nat.zero_le _, rfl, Lib.hid (by rw [HV.out]; simp)⟩
  case round =>
    obtain ⟨k, hk, rfl, HL⟩ := hrel
    by_cases hlt : k + 1 < l.length
    · obtain ⟨a, ha⟩ : ∃ a, l[k]? = some a := ⟨_, List.getElem?_eq_getElem (by omega)⟩
      obtain ⟨b, hb⟩ : ∃ b, l[k + 1]? = some b := ⟨_, List.getElem?_eq_getElem hlt⟩
      obtain ⟨g, o, rfl, hT⟩ : ∃ g o, A = some ⟨g, o, none⟩ ∧ TokAt w g o l := by
        rcases HA.out with ⟨_, h, _⟩ | h
        · subst h; cases ha
        · exact h
      obtain ⟨a0, _, _, a3, _, _⟩ := hT.at_ k a ha
      obtain ⟨b0, _, _, b3, _, _⟩ := hT.at_ (k + 1) b hb
      have hd := HL.out
      rw [drop_two l k a b ha hb, labels_two] at hd
      have HD := Lib.hid hd
      clear hd hT ha hb a3 HL
      obtain ⟨ka, la, ca, ta, na, sa⟩ := a
      obtain ⟨kb, lb, cb, tb, nb, sb⟩ := b
      dsimp only at a0 b0 b3 HD
      have hi : (k : Int) + 2 ≤ l.length := by omega
      have hi2 : ((k : Int) + 1).toNat = k + 1 := by omega
      by_cases e2 : kb = 7
      · subst e2
        by_cases e3 : tb = [58]
        · subst e3
          by_cases e1 : ka = 1
          · subst e1
            have HE := Lib.hid (show V = k + (2 + labelsP (l.drop (k + 2))) by have hd := HD.out; simpa using hd)
            clear HD
            go_wp2
            go_round
            case rel => exact ⟨k + 2, by omega, by go_num, Lib.hid (by rw [HE.out]; omega)⟩
            case measure => simp [intOf]; omega
          · have q1 : (ka != 1) = true := by simpa using e1
            by_cases e4 : ka = 2
            · subst e4
              have HE := Lib.hid (show V = k + (2 + labelsP (l.drop (k + 2))) by have hd := HD.out; simpa using hd)
              clear HD
              go_wp2
              go_round
              case rel => exact ⟨k + 2, by omega, by go_num, Lib.hid (by rw [HE.out]; omega)⟩
              case measure => simp [intOf]; omega
            · have q2 : (ka != 2) = true := by simpa using e4
              have HE := Lib.hid (show V = k by have hd := HD.out; simpa [e1, e4] using hd)
              clear HD
              clear e1 e4
              go_wp2
              go_ret
              exact ⟨ret_i64' (by rw [HE.out]), rfl⟩
        · have q3 : (tb != [58]) = true := by simpa using e3
          have q4 : (tb == [58]) = false := by simpa using e3
          have HE := Lib.hid (show V = k by have hd := HD.out; simpa [e3] using hd)
          clear HD
          clear e3
          by_cases e1 : ka = 1
          · subst e1
            go_wp2
            go_ret
            exact ⟨ret_i64' (by rw [HE.out]), rfl⟩
          · have q1 : (ka != 1) = true := by simpa using e1
            by_cases e4 : ka = 2
            · subst e4
              go_wp2
              go_ret
              exact ⟨ret_i64' (by rw [HE.out]), rfl⟩
            · have q2 : (ka != 2) = true := by simpa using e4
              clear e1 e4
              go_wp2
              go_ret
              exact ⟨ret_i64' (by rw [HE.out]), rfl⟩
      · have q5 : (kb != 7) = true := by simpa using e2
        have HE := Lib.hid (show V = k by have hd := HD.out; simpa [e2] using hd)
        clear HD
        clear e2
        by_cases e1 : ka = 1
        · subst e1
          go_wp2
          go_ret
          exact ⟨ret_i64' (by rw [HE.out]), rfl⟩
        · have q1 : (ka != 1) = true := by simpa using e1
          by_cases e4 : ka = 2
          · subst e4
            go_wp2
            go_ret
            exact ⟨ret_i64' (by rw [HE.out]), rfl⟩
          · have q2 : (ka != 2) = true := by simpa using e4
            clear e1 e4
            go_wp2
            go_ret
            exact ⟨ret_i64' (by rw [HE.out]), rfl⟩
    · have HE := Lib.hid (show V = k by rw [HL.out, labels_short l k (by omega)]; rfl)
      have hi : (l.length : Int) < (k : Int) + 2 := by omega
      clear HL hlt
      go_wp2
      go_ret
      exact ⟨ret_i64' (by rw [HE.out]), rfl⟩

end Go.Proofs.YtdgmdkkockbkjaaGreatDoor

