/- A row of bytes of the call's own that bears the mark of a conversion behind its end: appending to it. -/
import Derived.Test.YtbkgdepblaibkaaDoorFrame
import Derived.Lib.FrozenHead2
import Derived.Lib.ConvBytes
namespace Go.Proofs.YtbkgdepblaibkaaDoor
open Go Go.RowKit
set_option linter.unusedVariables false
set_option linter.unusedSimpArgs false

/-- Storing cells none of which is frozen. -/
theorem run_storeCells_k (P : Program) (g o : Nat) (t : TypeId) (fz : Nat × Nat) : ∀ (vs : List Value) (i : Nat) (cur : Array Value) (w : World), w.heap[g]? = some (.cells cur t fz) → (cur.size ≤ fz.1 ∨ fz.2 = 0) → o + i + vs.length ≤ cur.size → (∀ v ∈ vs, v.oneCell' = true) →
    (storeCells ⟨g, o, none⟩ vs i).run P w = .ok () (w.setRow g (cur.toList.take (o + i) ++ vs ++ cur.toList.drop (o + i + vs.length)).toArray)
  | [], i, cur, w, hg, _, _, _ => by
    simp only [storeCells, List.append_nil, List.length_nil, Nat.add_zero, List.take_append_drop, Array.toArray_toList]
    rw [setRow_self w g cur t fz hg]
    rfl
  | v :: rest, i, cur, w, hg, hfz, hl, h1 => by
    have hi : o + i < cur.size := by simp at hl; omega
    have hadd : (⟨g, o, none⟩ : Addr).add i = ⟨g, o + i, none⟩ := by unfold Addr.add; split <;> simp_all
    have hcell : w.cell? ⟨g, o + i, none⟩ = some cur[o + i] := by simp [World.cell?, hg, hi]
    have hfro : w.frozen? ⟨g, o + i, none⟩ = false := by
      obtain ⟨lo, hi'⟩ := fz
      simp only [World.frozen?, hg, Bool.and_eq_false_iff, decide_eq_false_iff_not]
      simp only at hfz
      rcases hfz with h | h
      · left; omega
      · right; omega
    have hst : (store ((⟨g, o, none⟩ : Addr).add i) v).run P w = .ok () (w.setRow g (cur.setIfInBounds (o + i) v)) := by
      rw [hadd, run_store P w _ v _ (h1 v (by simp)), hcell]
      simp [hfro, setCell_eq_setRow w g (o + i) cur t fz v hg]
    have ih := run_storeCells_k P g o t fz rest (i + 1) (cur.setIfInBounds (o + i) v) (w.setRow g (cur.setIfInBounds (o + i) v)) (setRow_heap w g cur _ t _ hg) (by simpa using hfz) (by simp at hl ⊢; omega) (fun x hx => h1 x (by simp [hx]))
    simp only [storeCells, Sem.run_bind, hst, Result.andThen_ok, ih, setRow_setRow]
    congr 3
    have e := list_seg_step cur.toList (o + i) v rest (by simp at hl ⊢; omega)
    simpa [Array.toList_setIfInBounds, Nat.add_assoc] using e

/-- The slice v heads a row of the call's own, with the cells xs; what is frozen lies behind its end. -/
def OwnK (w : World) (base : Nat) (e : TypeId) (v : Value) (n : Nat) (xs : List Value) : Prop :=
  xs.length = n ∧ ∃ g cap cur fz, v = .slice (some ⟨g, 0, none⟩) n cap ∧ base ≤ g ∧ w.heap[g]? = some (.cells cur e fz) ∧ (cur.size ≤ fz.1 ∨ fz.2 = 0) ∧ n ≤ cap ∧ cap ≤ maxLen ∧ cap ≤ cur.size ∧ cur.toList.take n = xs

section
variable {P : Program} (w : World)

theorem OwnK.lt {w : World} {base : Nat} {e : TypeId} {v : Value} {n : Nat} {xs : List Value} (h : OwnK w base e v n xs) : ∀ k, v.ownBlock = some k → base ≤ k ∧ k < w.heap.size := by
  intro k hk
  obtain ⟨_, g, cap, cur, fz, rfl, hb, hg, _⟩ := h
  simp [Value.ownBlock] at hk
  subst hk
  exact ⟨hb, (Array.getElem?_eq_some_iff.1 hg).1⟩

theorem OwnK.nx {w w' : World} {base : Nat} {e : TypeId} {v : Value} {n : Nat} {xs : List Value} (h : OwnK w base e v n xs) (hn : Nx w w') : OwnK w' base e v n xs := by
  obtain ⟨h0, g, cap, cur, fz, hv, hb, hg, r⟩ := h
  exact ⟨h0, g, cap, cur, fz, hv, hb, (Below.block hn g (Array.getElem?_eq_some_iff.1 hg).1).trans hg, r⟩

theorem OwnK.cells {w : World} {base : Nat} {e : TypeId} {v : Value} {n : Nat} {xs : List Value} (h : OwnK w base e v n xs) {g : Nat} (hg : v.ownBlock = some g) : ∀ (j : Nat) (u : Value), xs[j]? = some u → w.cell? (⟨g, j, none⟩ : Addr) = some u := by
  intro j u hu
  obtain ⟨_, g', cap, cur, fz, rfl, _, hgg, _, _, _, _, htake⟩ := h
  simp [Value.ownBlock] at hg
  subst hg
  rw [cell_of_row w g' j cur e fz hgg]
  rw [← htake, List.getElem?_take] at hu
  split at hu
  · simpa using hu
  · cases hu

/-- The bytes of a string. -/
theorem OwnK.conv (w : World) (base : Nat) (e : TypeId) (s : ByteArray) (hb : base ≤ w.heap.size) (hs : s.size ≤ maxLen) :
    OwnK (Lib.bytesWorld w e s) base e (.slice (some ⟨w.heap.size, 0, none⟩) s.size (grownCap w s.size 0 e)) s.size (Lib.strCells s) := by
  have hge := grownCap_ge w s.size 0 e
  have hcm : grownCap w s.size 0 e ≤ maxLen := grownCap_le_maxLen w s.size 0 e hs
  have hsz : (Lib.bytesCells w e s).size = grownCap w s.size 0 e := by
    unfold Lib.bytesCells
    rw [Array.size_append, Array.size_map, Array.size_replicate]
    have : s.data.size = s.size := rfl
    omega
  refine ⟨Lib.strCells_length s, w.heap.size, _, Lib.bytesCells w e s, _, rfl, hb, Lib.bytesWorld_at_new w e s, Or.inl (Nat.le_refl _), hge, hcm, by omega, ?_⟩
  unfold Lib.bytesCells
  rw [Array.toList_append]
  have e1 : (s.data.map fun b => Value.int .u8 b.toNat).toList = Lib.strCells s := by unfold Lib.strCells; rw [Array.toList_map]
  rw [e1, List.take_append_of_le_length (by rw [Lib.strCells_length]; exact Nat.le_refl _)]
  exact List.take_of_length_le (by rw [Lib.strCells_length]; exact Nat.le_refl _)

theorem run_append_k (base : Nat) (t ty e : TypeId) (i : TypeInfo) (ht : P.underlying t = some (.slice e)) (hi : P.info? e = some i) (hz : i.zero = some (.int .u8 0))
    (hsize : i.size = 1) (hby : i.bytes = 1)
    (v : Value) (n : Nat) (xs : List Value) (hown : OwnK w base e v n xs)
    (A : Option Addr) (m c : Nat) (news : List Value) (hl : news.length = m) (hA : (A = none ∧ m = 0 ∧ c = 0) ∨ ∃ ad, A = some ad ∧ ∀ (j : Nat) (u : Value), news[j]? = some u → w.cell? (ad.add j) = some u) (h1 : ∀ u ∈ news, u.oneCell' = true)
    (hbytes : n + m ≤ 140737488355328) (hbase : base ≤ w.heap.size) :
    ∃ v' w', (Builtin.append_ #[t, t] ty #[v, .slice A m c]).run P w = .ok v' w' ∧ OwnK w' base e v' (n + m) (xs ++ news) ∧ w.grownBy w' v.ownBlock := by
  have hsmall : n + m ≤ 9223372036854775807 := by omega
  have hlen : (xs ++ news).length = n + m := by rw [List.length_append, hown.1, hl]
  obtain ⟨h0, g, cap, cur, fz, rfl, hbg, hg, hfz, hnc, hcm, hcs, htake⟩ := hown
  rcases hA with ⟨rfl, rfl, rfl⟩ | ⟨a, rfl, hnews⟩
  · have hn : news = [] := List.eq_nil_of_length_eq_zero (by simpa using hl)
    subst hn
    refine ⟨_, w, ?_, ⟨by simpa using h0, g, cap, cur, fz, rfl, hbg, hg, hfz, by simpa using hnc, hcm, hcs, by simpa using htake⟩, ⟨rfl, rfl, rfl, Nat.le_refl _, fun _ _ _ => rfl⟩⟩
    simp [Builtin.append_, run_underlying ht, sizeOf, typeInfo, hi, Builtin.lenOf, Builtin.firstCells, hnc, storeCells]
  by_cases hroom : n + m ≤ cap
  · have hf := run_firstCells_some (P := P) w i.size m a m c news (by rw [hsize]; simpa using hl) hnews
    have hst := run_storeCells_k P g n e fz news 0 cur w hg hfz (by omega) h1
    simp only [Nat.add_zero] at hst
    have hr : (Builtin.append_ #[t, t] ty #[.slice (some ⟨g, 0, none⟩) n cap, .slice (some a) m c]).run P w =
        .ok (.slice (some ⟨g, 0, none⟩) (n + m) cap) (w.setRow g (cur.toList.take n ++ news ++ cur.toList.drop (n + news.length)).toArray) := by
      rw [hsize] at hf
      simp [Builtin.append_, run_underlying ht, sizeOf, typeInfo, hi, Builtin.lenOf, hroom, hf, hsize, Addr.add_lit, hst]
    refine ⟨_, _, hr, ⟨hlen, g, cap, _, fz, rfl, hbg, setRow_heap w g cur _ e _ hg, ?_, hroom, hcm, ?_, ?_⟩, ⟨rfl, rfl, rfl, by simp, fun k _ hk => setRow_other w g k _ (fun e => hk (by simp [Value.ownBlock, e]))⟩⟩
    · rcases hfz with h | h
      · left
        simp only [List.size_toArray, List.length_append, List.length_take, List.length_drop, Array.length_toList]
        omega
      · exact Or.inr h
    · simp only [List.size_toArray, List.length_append, List.length_take, List.length_drop, Array.length_toList]
      omega
    · simp only [htake]
      rw [← hlen]
      exact List.take_left
  · have holds : ∀ (j : Nat) (u : Value), xs[j]? = some u → w.cell? ((⟨g, 0, none⟩ : Addr).add j) = some u := fun j u hu => by
      have := OwnK.cells (w := w) (base := base) (e := e) (v := .slice (some ⟨g, 0, none⟩) n cap) ⟨h0, g, cap, cur, fz, rfl, hbg, hg, hfz, hnc, hcm, hcs, htake⟩ (g := g) rfl j u hu
      rw [show (⟨g, 0, none⟩ : Addr).add j = ⟨g, j, none⟩ by unfold Addr.add; split <;> simp_all]
      exact this
    have hr := run_append_grow (P := P) w t ty e i (.int .u8 0) ht hi hz ⟨g, 0, none⟩ n cap xs (by rw [hsize, h0]; omega) holds a m c news (by rw [hsize, hl]; omega) hnews (by omega) (by omega) (by rw [hby]; exact growslice_fits (by omega) (by omega))
    have hge := grownCap_ge w (n + m) cap e
    have hcm2 : grownCap w (n + m) cap e ≤ maxLen := grownCap_le_maxLen w (n + m) cap e (by unfold maxLen; omega)
    refine ⟨_, _, hr, ⟨hlen, w.heap.size, _, _, (0, 0), rfl, hbase, _root_.Go.heap_alloc_new w.drew _, Or.inr rfl, hge, hcm2, ?_, ?_⟩, ⟨rfl, rfl, rfl, by simp, fun k hk _ => by (try exact _root_.Go.heap_alloc_old w.drew _ hk) <;> exact (World.grownBy_alloc w.drew _ none).block k hk (by simp)⟩⟩
    · have hz1 : (Value.int IntKind.u8 0).cells.size = 1 := rfl
      simp only [Array.size_append, List.size_toArray, size_zeroCells, hz1, h0, hl]
      omega
    · simp only [Array.toList_append, List.append_assoc]
      rw [← List.append_assoc, ← hlen]
      exact List.take_left

theorem run_append_ks (base : Nat) (t u ty e : TypeId) (i : TypeInfo) (ht : P.underlying t = some (.slice e)) (hu : P.underlying u = some .string) (hi : P.info? e = some i) (hz : i.zero = some (.int .u8 0))
    (hsize : i.size = 1) (hby : i.bytes = 1)
    (v : Value) (n : Nat) (xs : List Value) (hown : OwnK w base e v n xs) (s : ByteArray)
    (hbytes : n + s.size ≤ 140737488355328) (hbase : base ≤ w.heap.size) :
    ∃ v' w', (Builtin.append_ #[t, u] ty #[v, .string s]).run P w = .ok v' w' ∧ OwnK w' base e v' (n + s.size) (xs ++ Lib.strCells s) ∧ w.grownBy w' v.ownBlock := by
  have hsl := Lib.strCells_length s
  have hsmall : n + s.size ≤ 9223372036854775807 := by omega
  have hlen : (xs ++ Lib.strCells s).length = n + s.size := by rw [List.length_append, hown.1, Lib.strCells_length]
  obtain ⟨h0, g, cap, cur, fz, rfl, hbg, hg, hfz, hnc, hcm, hcs, htake⟩ := hown
  by_cases hroom : n + s.size ≤ cap
  · have hf := Lib.run_firstCells_string (P := P) w 1 s
    have hst := run_storeCells_k P g n e fz (Lib.strCells s) 0 cur w hg hfz (by simp only [Lib.strCells_length]; omega) (Lib.strCells_oneCell s)
    simp only [Nat.add_zero] at hst
    have hr : (Builtin.append_ #[t, u] ty #[.slice (some ⟨g, 0, none⟩) n cap, .string s]).run P w =
        .ok (.slice (some ⟨g, 0, none⟩) (n + s.size) cap) (w.setRow g (cur.toList.take n ++ Lib.strCells s ++ cur.toList.drop (n + (Lib.strCells s).length)).toArray) := by
      simp [Builtin.append_, run_underlying ht, run_underlying hu, sizeOf, typeInfo, hi, Builtin.lenOf, hroom, hf, hsize, Addr.add_lit, hst]
    refine ⟨_, _, hr, ⟨hlen, g, cap, _, fz, rfl, hbg, setRow_heap w g cur _ e _ hg, ?_, hroom, hcm, ?_, ?_⟩, ⟨rfl, rfl, rfl, by simp, fun k _ hk => setRow_other w g k _ (fun e => hk (by simp [Value.ownBlock, e]))⟩⟩
    · rcases hfz with h | h
      · left
        simp only [List.size_toArray, List.length_append, List.length_take, List.length_drop, Array.length_toList]
        omega
      · exact Or.inr h
    · simp only [List.size_toArray, List.length_append, List.length_take, List.length_drop, Array.length_toList]
      omega
    · simp only [htake]
      rw [← hlen]
      exact List.take_left
  · have holds : ∀ (j : Nat) (u : Value), xs[j]? = some u → w.cell? ((⟨g, 0, none⟩ : Addr).add j) = some u := fun j u hu => by
      have := OwnK.cells (w := w) (base := base) (e := e) (v := .slice (some ⟨g, 0, none⟩) n cap) ⟨h0, g, cap, cur, fz, rfl, hbg, hg, hfz, hnc, hcm, hcs, htake⟩ (g := g) rfl j u hu
      rw [show (⟨g, 0, none⟩ : Addr).add j = ⟨g, j, none⟩ by unfold Addr.add; split <;> simp_all]
      exact this
    have hr := Lib.run_append_grow_string (P := P) w t u ty e i (.int .u8 0) ht hu hi hz ⟨g, 0, none⟩ n cap xs (by rw [hsize, h0]; omega) holds s (by omega) (by omega) (by rw [hby]; exact growslice_fits (by omega) (by omega))
    have hge := grownCap_ge w (n + s.size) cap e
    have hcm2 : grownCap w (n + s.size) cap e ≤ maxLen := grownCap_le_maxLen w (n + s.size) cap e (by unfold maxLen; omega)
    refine ⟨_, _, hr, ⟨hlen, w.heap.size, _, _, (0, 0), rfl, hbase, _root_.Go.heap_alloc_new w.drew _, Or.inr rfl, hge, hcm2, ?_, ?_⟩, ⟨rfl, rfl, rfl, by simp, fun k hk _ => by (try exact _root_.Go.heap_alloc_old w.drew _ hk) <;> exact (World.grownBy_alloc w.drew _ none).block k hk (by simp)⟩⟩
    · have hz1 : (Value.int IntKind.u8 0).cells.size = 1 := rfl
      simp only [Array.size_append, List.size_toArray, size_zeroCells, hz1, h0, Lib.strCells_length]
      omega
    · simp only [Array.toList_append, List.append_assoc]
      rw [← List.append_assoc, ← hlen]
      exact List.take_left

theorem wpList_append_k {ops : Array Oper} {rest : List Oper} {o : Oper} {a : Act} {Q : Exit → Act → World → Prop} (hgd : o.guard = none) (s x : Operand) (t : TypeId)
    (ho : o.op = .call { callee := .builtin .append, args := #[s, x], argTypes := #[t, t] })
    (base : Nat) (e : TypeId) (i : TypeInfo) (ht : P.underlying t = some (.slice e)) (hi : P.info? e = some i) (hz : i.zero = some (.int .u8 0))
    (hsize : i.size = 1) (hby : i.bytes = 1)
    (v : Value) (n : Nat) (xs : List Value) (hs : a.eval s = v) (hown : OwnK w base e v n xs)
    (A : Option Addr) (m c : Nat) (news : List Value) (hx : a.eval x = .slice A m c) (hl : news.length = m) (hA : (A = none ∧ m = 0 ∧ c = 0) ∨ ∃ ad, A = some ad ∧ ∀ (j : Nat) (u : Value), news[j]? = some u → w.cell? (ad.add j) = some u) (h1 : ∀ u ∈ news, u.oneCell' = true)
    (hbytes : n + m ≤ 140737488355328) (hbase : base ≤ w.heap.size)
    (h : ∀ v' w', OwnK w' base e v' (n + m) (xs ++ news) → w.grownBy w' v.ownBlock → wpList P ops Q rest (a.put o.dst v') w') : wpList P ops Q (o :: rest) a w := by
  refine wpList_plain hgd fun _ hK => ?_
  obtain ⟨v', w', hr, h2, h3⟩ := run_append_k (P := P) w base t o.type e i ht hi hz hsize hby v n xs hown A m c news hl hA h1 hbytes hbase
  unfold Oper.wp execOp
  simp only [ho, resolve, invoke, builtin, Sem.run_bind, Sem.run_pure, Result.andThen_ok, List.map_toArray, List.map_cons, List.map_nil, hs, hx, hr]
  exact hK _ _ (h v' w' h2 h3)

theorem wpList_append_ks {ops : Array Oper} {rest : List Oper} {o : Oper} {a : Act} {Q : Exit → Act → World → Prop} (hgd : o.guard = none) (sl x : Operand) (t u : TypeId)
    (ho : o.op = .call { callee := .builtin .append, args := #[sl, x], argTypes := #[t, u] })
    (base : Nat) (e : TypeId) (i : TypeInfo) (ht : P.underlying t = some (.slice e)) (hu : P.underlying u = some .string) (hi : P.info? e = some i) (hz : i.zero = some (.int .u8 0))
    (hsize : i.size = 1) (hby : i.bytes = 1)
    (v : Value) (n : Nat) (xs : List Value) (hs : a.eval sl = v) (hown : OwnK w base e v n xs) (s : ByteArray) (hx : a.eval x = .string s)
    (hbytes : n + s.size ≤ 140737488355328) (hbase : base ≤ w.heap.size)
    (h : ∀ v' w', OwnK w' base e v' (n + s.size) (xs ++ Lib.strCells s) → w.grownBy w' v.ownBlock → wpList P ops Q rest (a.put o.dst v') w') : wpList P ops Q (o :: rest) a w := by
  refine wpList_plain hgd fun _ hK => ?_
  obtain ⟨v', w', hr, h2, h3⟩ := run_append_ks (P := P) w base t u o.type e i ht hu hi hz hsize hby v n xs hown s hbytes hbase
  unfold Oper.wp execOp
  simp only [ho, resolve, invoke, builtin, Sem.run_bind, Sem.run_pure, Result.andThen_ok, List.map_toArray, List.map_cons, List.map_nil, hs, hx, hr]
  exact hK _ _ (h v' w' h2 h3)

end

end Go.Proofs.YtbkgdepblaibkaaDoor
