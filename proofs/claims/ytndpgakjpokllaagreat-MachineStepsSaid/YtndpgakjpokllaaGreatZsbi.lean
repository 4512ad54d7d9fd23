/- Parts of the proof, one behind the other. -/
import Derived.RangeFuncSeq
import Derived.RangeFuncGives
import Derived.Sort.MapsRangeIn
import Derived.Sort.KeysCollected
import Derived.WalkKit
import Derived.OwnWalkIn
import Derived.TacticsInMore
import Derived.RegionIn
import Derived.LoopNIn
import Derived.LoopIn
import Derived.Maps.AppendAt
import Derived.Maps.OwnIn
import Derived.Shelf.Abstract
import Derived.Lib.SlKeysI
import Derived.Maps.OwnSet
import Derived.Maps.OwnOps
import Derived.Maps.Views
import Derived.Test.YtndpgakjpokllaaGreatZsab
import Derived.Test.YtndpgakjpokllaaGreatZsad
import Derived.Test.YtndpgakjpokllaaGreatZsbh
/- maps.Keys, slices.Collect, slices.AppendSeq at a map[uint32]byte: turned from the kit's worked proofs GgKeysAtTheDump, GgCollectAtTheDump. -/
namespace Go.Proofs.YtndpgakjpokllaaGreat
open Go.RowKit Go.Maps Go.Sort Go.Shelf
set_option linter.unusedVariables false
set_option linter.unusedSimpArgs false

/-- A uint32 as a value. -/
abbrev encU : Int → Value := Value.int .u32

theorem encU_inj {x y : Int} (h : encU x = encU y) : x = y := by simpa [encU] using h

theorem lawK : Keyed Tryz.prog 22 := int_keyed Tryz.underlying22

theorem perm_keysU {H : Type} {es : List (Lit × DataW H)} (hp : es.Pairwise (fun p q => p.1 ≠ q.1)) (hk : ∀ p ∈ es, ∃ x, p.1 = .int .u32 x) {ss : List Int} (hnd : ss.Nodup) (hm : ∀ x, x ∈ ss ↔ has (.map es) (.int .u32 x) = true) :
    ss.Perm (intKeys (.map es)) := by
  have key : ∀ p ∈ es, p.1 = .int .u32 (intOf p.1) := fun p hp' => by
    obtain ⟨a, ha⟩ := hk p hp'
    rw [ha]
    rfl
  have h2 : (intKeys (.map es)).Nodup := by
    show (es.map fun p => intOf p.1).Nodup
    rw [List.Nodup, List.pairwise_map]
    exact hp.imp_of_mem fun {p q} hp' hq' hne e => hne (by rw [key p hp', key q hq', e])
  refine (List.perm_ext_iff_of_nodup hnd h2).2 fun x => ?_
  rw [hm x, has_eq, List.any_eq_true]
  constructor
  · rintro ⟨p, hp', hs⟩
    refine List.mem_map.2 ⟨p, hp', ?_⟩
    rw [key p hp'] at hs
    simpa [Lit.sameKey] using hs
  · intro hx
    obtain ⟨p, hp', rfl⟩ := List.mem_map.1 hx
    exact ⟨p, hp', by rw [key p hp']; simp [Lit.sameKey, intOf]⟩

/-- What has come so far: each key once, and it is no longer to come. -/
def CollectedU {H : Type} (D0 : DataW H) (left : Lit → Bool) (ss : List Int) : Prop := ss.Nodup ∧ ∀ x, x ∈ ss ↔ (has D0 (.int .u32 x) = true ∧ left (.int .u32 x) = false)

theorem CollectedU.start {H : Type} (D0 : DataW H) : CollectedU D0 (has D0) [] := by
  refine ⟨List.nodup_nil, fun x => ?_⟩
  cases has D0 (.int .u32 x) <;> simp

theorem CollectedU.step {H : Type} {D0 : DataW H} {left : Lit → Bool} {ss : List Int} (h : CollectedU D0 left ss) {x : Int} {y : DataW H} (hlk : left (.int .u32 x) = true) (hat : ∀ zd, D0.atKey (.int .u32 x) zd = y) :
    CollectedU D0 (fun z => left z && !z.sameKey (.int .u32 x)) (ss ++ [x]) := by
  have hnew : x ∉ ss := fun hx => by
    rw [((h.2 x).1 hx).2] at hlk
    cases hlk
  have hhas : has D0 (.int .u32 x) = true := has_true_of_atKey hat
  refine ⟨List.nodup_append.2 ⟨h.1, by simp, fun a ha b hb => ?_⟩, fun z => ?_⟩
  · rw [List.mem_singleton.1 hb]
    exact fun e => hnew (e ▸ ha)
  · by_cases hz : z = x
    · rw [hz]
      simp [hhas, Lit.sameKey]
    · simp [h.2 z, hz, Lit.sameKey]

theorem CollectedU.perm {H : Type} {D0 : DataW H} {left : Lit → Bool} {ss : List Int} (h : CollectedU D0 left ss) {P : Program} {k : TypeId} {R : Value → Option (DataW H × List MemPlace)} {w : World} {b n : Nat} (hown : w.ownsMap P k R b n D0) (K : Keyed P k) (hk : P.underlying k = some (.int .u32))
    (hl : ∀ kl, left kl = false) : ss.Perm (intKeys D0) := by
  obtain ⟨es, hD, hpw, _⟩ := hown.entries K
  obtain ⟨es', hD', hko⟩ := hown.keysOf
  subst hD
  have e : es = es' := by simpa using hD'
  subst e
  refine perm_keysU hpw (fun p hp => ?_) h.1 fun x => by rw [h.2 x, hl]; simp
  obtain ⟨v, hv⟩ := hko p hp
  obtain ⟨x, _, hx, _⟩ := Maps.keyOf_int_inv hk hv
  exact ⟨x, hx⟩

set_option maxHeartbeats 1000000 in
theorem keys_in (F : Fence) (n : Nat) (h7 : F.fn 42) (hro : F.round = none) (mb : Option Nat) (w : World) :
    CallsIn F n Tryz.prog 42 #[.map mb] w fun e w' => e = .returned (.func (.func 76) #[] #[.pointer (some ⟨w.heap.size, 0, none⟩)]) ∧ w' = w.alloc (.cells #[.map mb] 78) := by
  refine callsIn_of_wp Tryz.func42 rfl h7 ?_ hro
  simp only [Tryz.ntmps42, List.size_toArray, List.length_cons, List.length_nil, Nat.reduceAdd, Nat.reduceSub, Array.replicate_succ, Array.replicate_zero, List.push_toArray, List.append_toArray, List.nil_append, List.cons_append]
  gi_wp2
  go_ret
  exact ⟨rfl, rfl⟩

set_option maxRecDepth 100000 in
set_option maxHeartbeats 1000000 in
theorem keys1N_in {H : Type} (F : Fence) (n : Nat) (h10 : F.fn 76) (hro : F.round = none) (hn : 1 ≤ n) (l Bm b nn : Nat) (D0 : DataW H) (J : List Int → World → Prop)
    (hY : ∀ pre x W, J pre W → pre.length < Maps.size D0 → YieldAt F (n - 1) Tryz.prog l #[encU x] W fun e W' => e = .returned (.bool true) ∧ J (pre ++ [x]) W' ∧ KeepsWalks W W')
    (W : World) (hJ : AbidesFrom W.heap.size J) (hm : W.cell? ⟨Bm, 0, none⟩ = some (.map (some b))) (hown : W.ownsMap Tryz.prog 22 (plainElem Tryz.prog 5) b nn D0) (h0 : J [] W) :
    CallsIn F n Tryz.prog 76 #[.func (.yield l) #[] #[], .pointer (some ⟨Bm, 0, none⟩)] W fun e W' => (∃ v, e = .returned v) ∧ ∃ ss : List Int, ss.Perm (intKeys D0) ∧ J ss W' := by
  refine callsIn_of_wp Tryz.func76 rfl h10 ?_ hro
  simp only [Tryz.ntmps76, List.size_toArray, List.length_cons, List.length_nil, Nat.reduceAdd, Nat.reduceSub, Array.replicate_succ, Array.replicate_zero, List.push_toArray, List.append_toArray, List.nil_append, List.cons_append]
  gi_wp2_with (first
    | (gi_at_range; refine wpListIn_range_own _ rfl _ 78 rfl 22 5 lawK Tryz.underlying78 _ b nn _ rfl hown ?_; intro w0 hrg0 hg0 hs0)
    | gi_in)
  go_frame
  gi_loopw [3] (fun _ wr => ∃ (left : Lit → Bool) (cnt : Nat) (ss : List Int), wr.ranges Tryz.prog 22 (plainElem Tryz.prog 5) b W.heap.size nn D0 left cnt ∧ ss.length + cnt ≤ Maps.size D0 ∧ CollectedU D0 left ss ∧ J ss wr)
    (fun _ wr => wr.rangeLeft b W.heap.size)
  case atStart =>
    exact ⟨_, _, [], hrg0, by simp, CollectedU.start D0, hJ [] W w0 none h0 hg0 (fun r e => by cases e)⟩
  case round =>
    obtain ⟨left, cnt, ss, hrg, hcs, hC, hJs⟩ := hrel
    gi_wp2_with (first
      | (gi_at_next; refine wpListIn_next_ranges _ rfl _ rfl 22 lawK (plainElem Tryz.prog 5) encU (Value.int .u8) (fun key kl hk => by obtain ⟨x, hx, _⟩ := Maps.keyOf_int_inv Tryz.underlying22 hk; exact ⟨x, hx⟩) (fun v y hv => by obtain ⟨c, rfl, _⟩ := plainElem_int_inv Tryz.underlying5 hv; exact ⟨c, rfl⟩) b W.heap.size nn _ _ _ rfl hrg ?_ ?_)
      | gi_in)
    · -- NOTHING IS LEFT
      intro hc0 hl0
      gi_wp2
      go_end0
      exact ⟨⟨_, rfl⟩, ss, hC.perm hown lawK Tryz.underlying22 hl0, hJs⟩
    · -- AN ENTRY HAS COME: yield(k)
      intro x c kl yd yp w2 cnt2 hkey hlk hv hat hrg2 hlt hg2 hs2 hen
      obtain ⟨x', ex, rfl, _⟩ := Maps.keyOf_int_inv Tryz.underlying22 hkey
      obtain rfl : x = x' := encU_inj ex
      have hJ2 : J ss w2 := hJ ss wr w2 (some W.heap.size) hJs hg2 (fun r e => by cases e; exact ⟨Nat.le_refl _, hrg.iter_walk⟩)
      obtain ⟨fn, tmps, assign, body, hy, hR⟩ := hY ss x w2 hJ2 (by omega)
      clear hs2
      gi_wp2
      refine hR.mono ?_
      rintro e W3 ⟨rfl, hJ3, hk3⟩
      gi_wp2
      have hrg3 := hrg2.of_walks hk3
      go_roundw
      case rel => exact ⟨_, cnt2, ss ++ [x], hrg3, by simp; omega, hC.step hlk hat, hJ3⟩
      case measure => rw [hrg3.left_eq, hrg.left_eq]; exact hlt

theorem keys_gives {H : Type} (F : Fence) (n : Nat) (h10 : F.fn 76) (hro : F.round = none) (hn : 1 ≤ n) (Bm b nn : Nat) (D0 : DataW H) (w : World) (hBm : Bm < w.heap.size)
    (hm : w.cell? ⟨Bm, 0, none⟩ = some (.map (some b))) (hown : w.ownsMap Tryz.prog 22 (plainElem Tryz.prog 5) b nn D0) :
    SeqGives F n Tryz.prog 76 #[.pointer (some ⟨Bm, 0, none⟩)] encU (fun ss => ss.Perm (intKeys D0)) (Maps.size D0) w := fun l J W hW hJ hY h0 => by
  have hown' : W.ownsMap Tryz.prog 22 (plainElem Tryz.prog 5) b nn D0 := by
    have hbl := hown.lt
    obtain ⟨es, clock, hb, Ft, hs, hD⟩ := hown
    exact ⟨es, clock, (hW.block b hbl).trans hb, Ft, hs, hD⟩
  exact keys1N_in F n h10 hro hn l Bm b nn D0 J hY W hJ ((hW.cell (p := ⟨Bm, 0, none⟩) hBm).trans hm) hown' h0

def apAssign : Code := (Code.region 2 #[{ dst := some 5, op := Op.assign (Operand.tmp 7), type := 22, pos := "iter.go:51", after := #[], guard := none }] false)

def apBody : Code := (Code.block 1 (Code.region 3 #[{ dst := some 8, op := Op.load 84 (Operand.tmp 2), type := 84, pos := "iter.go:52", after := #[], guard := none }, { dst := some 9, op := Op.move (Operand.tmp 5), type := 22, pos := "iter.go:52", after := #[], guard := none }, { dst := some 10, op := Op.buildSlice 84 1 #[(0, Operand.tmp 9)], type := 84, pos := "iter.go:52", after := #[{ on := 1, ground := Ground.data }], guard := none }, { dst := some 11, op := Op.call { callee := Callee.builtin Builtin.append, args := #[Operand.tmp 8, Operand.tmp 10], argTypes := #[84, 84] }, type := 84, pos := "iter.go:52", after := #[{ on := 0, ground := Ground.data }, { on := 2, ground := Ground.data }], guard := none }, { dst := none, op := Op.store 84 (Operand.tmp 2) (Operand.tmp 11), type := 0, pos := "iter.go:52", after := #[{ on := 3, ground := Ground.data }, { on := 3, ground := Ground.chain }, { on := 0, ground := Ground.phase }, { on := 1, ground := Ground.phase }, { on := 2, ground := Ground.phase }, { on := 3, ground := Ground.phase }], guard := none }] false))

def apRec (fn : FuncId) (sv : Value) (Bs D : Nat) (st : LoopState) (pend : Option Code) : Loop :=
  { state := st, pending := pend, fn, tmps := #[.slice none 0 0, sv, .pointer (some ⟨Bs, 0, none⟩), undef, .slice none 0 0, undef, sv, undef, undef, undef, undef, undef, undef], params := #[7], assign := apAssign, body := apBody, defers := D }

structure ApAt (w0 : World) (fn : FuncId) (sv : Value) (Bs l D : Nat) (ss : List Int) (W : World) : Prop where
  box : ∃ v, W.heap[Bs]? = some (.cells #[v] 84 (0, 0)) ∧ W.ownsRow w0.heap.size 22 1 v ss.length (ss.map encU) ∧ (v = .slice none 0 0 ↔ ss = [])
  L : W.heap[l]? = some (.loop (apRec fn sv Bs D .ready none))
  K : W.heap[D]? = some (.deferred (some []))
  below : Below w0.heap.size w0 W

theorem ownsRow_abides {W W' : World} {row : Option Nat} {base : Nat} {e : TypeId} {size : Nat} {v : Value} {k : Nat} {xs : List Value} (h : W.ownsRow base e size v k xs) (hg : W.grownBy W' row)
    (hrow : ∀ r, row = some r → ∃ o : Obj, W.heap[r]? = some o ∧ o.isWalk = true) : W'.ownsRow base e size v k xs := by
  refine h.kept hg ?_
  rcases h.2 with ⟨rfl, _⟩ | ⟨g, cap, cur, rfl, _, hgb, _⟩
  · exact .inl rfl
  · refine .inr fun e' => ?_
    obtain ⟨o, ho, hw⟩ := hrow g (by simpa [Value.ownBlock] using e'.symm)
    rw [hgb] at ho; cases ho; cases hw

theorem ap_abides (w0 : World) (fn : FuncId) (sv : Value) (Bs l D B : Nat) (hB : w0.heap.size ≤ B) : AbidesFrom B (ApAt w0 fn sv Bs l D) := fun s W W' row h hg hrow => by
  have hrow' : ∀ r, row = some r → ∃ o : Obj, W.heap[r]? = some o ∧ o.isWalk = true := fun r e => (hrow r e).2
  obtain ⟨v, hv, hr, hn⟩ := h.box
  exact ⟨⟨v, (grownBy_keeps hg hrow' hv rfl).trans hv, ownsRow_abides hr hg hrow', hn⟩, (grownBy_keeps hg hrow' h.L rfl).trans h.L, (grownBy_keeps hg hrow' h.K rfl).trans h.K,
    h.below.grown hg h.below.size (fun k e => Nat.le_trans hB (hrow k e).1)⟩

theorem grownBy_putObj (W : World) (l : Nat) (o : Obj) : W.grownBy (W.putObj l o) (some l) :=
  ⟨rfl, rfl, rfl, by simp, fun k _ hk => World.putObj_heap_other (fun e => hk (by rw [e]))⟩

theorem grownBy_setCell0 (W : World) (b : Nat) (v : Value) : W.grownBy (W.setCell ⟨b, 0, none⟩ v) (some b) :=
  ⟨rfl, rfl, rfl, (KeepsWalks.setCell W _ v).size, fun k _ hk => Below.heap_setCell _ _ _ k (fun e => hk (by rw [e]))⟩

theorem ownsRow_ne {W : World} {base : Nat} {e : TypeId} {size : Nat} {v : Value} {k : Nat} {xs : List Value} (h : W.ownsRow base e size v k xs) {j : Nat} {o : Obj} (hj : W.heap[j]? = some o) (hno : ∀ cur, o ≠ .cells cur e (0, 0)) :
    v.ownBlock = none ∨ v.ownBlock ≠ some j := by
  rcases h.2 with ⟨rfl, _⟩ | ⟨g, cap, cur, rfl, _, hgb, _⟩
  · exact .inl rfl
  · refine .inr fun e' => ?_
    have : g = j := by simpa [Value.ownBlock] using e'
    subst this; rw [hgb] at hj; cases hj; exact hno cur rfl

theorem cell_of_box {W : World} {B : Nat} {v : Value} {t : TypeId} (h : W.heap[B]? = some (.cells #[v] t (0, 0))) : W.cell? ⟨B, 0, none⟩ = some v ∧ W.frozen? ⟨B, 0, none⟩ = false := by
  constructor <;> simp [World.cell?, World.frozen?, h]

theorem heap_setCell_box {W : World} {B : Nat} {v : Value} {t : TypeId} (v' : Value) (h : W.heap[B]? = some (.cells #[v] t (0, 0))) : (W.setCell ⟨B, 0, none⟩ v').heap[B]? = some (.cells #[v'] t (0, 0)) := by
  obtain ⟨hlt, hk⟩ := Array.getElem?_eq_some_iff.1 h
  show (W.heap.modify B _)[B]? = _
  rw [Array.getElem?_eq_getElem (by rw [Array.size_modify]; exact hlt), Array.getElem_modify_self, hk]
  rfl

theorem ownsRow_not_walk {W : World} {base : Nat} {e : TypeId} {size : Nat} {v : Value} {k : Nat} {xs : List Value} (h : W.ownsRow base e size v k xs) : ∀ (j : Nat) (o : Obj), v.ownBlock = some j → W.heap[j]? = some o → o.isWalk = false := by
  intro j o hj ho
  rcases h.2 with ⟨rfl, _⟩ | ⟨g, cap, cur, rfl, _, hgb, _⟩
  · simp [Value.ownBlock] at hj
  · have : g = j := by simpa [Value.ownBlock] using hj
    subst this; rw [hgb] at ho; cases ho; rfl

theorem info26 : (Tryz.prog.info? 22).map (fun i => (i.zero, i.size, i.bytes)) = some (some (.int .u32 0), 1, 4) := by kernel_rfl

set_option maxRecDepth 100000 in
set_option maxHeartbeats 2000000 in
theorem apYield (F : Fence) (m : Nat) (w0 : World) (fn : FuncId) (hfn : F.fn fn) (sv : Value) (Bs l D : Nat) (hBl : Bs ≠ l) (hDl : D ≠ l) (hDB : D ≠ Bs) (h0B : w0.heap.size ≤ Bs) (h0l : w0.heap.size ≤ l)
    (N : Nat) (hN : N ≤ maxLen) (hNb : N * 4 ≤ 140737488355328) (ss : List Int) (x : Int) (W : World) (h : ApAt w0 fn sv Bs l D ss W) (hlen : ss.length < N) :
    YieldAt F m Tryz.prog l #[encU x] W fun e W' => e = .returned (.bool true) ∧ ApAt w0 fn sv Bs l D (ss ++ [x]) W' ∧ KeepsWalks W W' := by
  obtain ⟨i0, hi, hz0, hz1, hz2⟩ := info_parts info26
  obtain ⟨v, hv, hrow, _⟩ := h.box
  refine ⟨fn, #[.slice none 0 0, sv, .pointer (some ⟨Bs, 0, none⟩), undef, .slice none 0 0, undef, sv, encU x, undef, undef, undef, undef, undef], apAssign, apBody, by simpa [apRec] using run_yield (P := Tryz.prog) (args := #[encU x]) h.L rfl, roundIn_of_wpIn hfn ?_⟩
  have hl : l < W.heap.size := (Array.getElem?_eq_some_iff.1 h.L).1
  have hbr := run_beginRound (P := Tryz.prog) h.L rfl
  obtain ⟨W2, hW2⟩ : ∃ W2, W.putObj l (.loop { apRec fn sv Bs D .ready none with state := .busy }) = W2 := ⟨_, rfl⟩
  rw [hW2] at hbr
  have hg2 : W.grownBy W2 (some l) := by rw [← hW2]; exact grownBy_putObj _ _ _
  have hk2 : KeepsWalks W W2 := by rw [← hW2]; exact KeepsWalks.putObj _ h.L rfl
  have hv2 : W2.heap[Bs]? = some (.cells #[v] 84 (0, 0)) := by rw [← hW2]; exact (World.putObj_heap_other hBl).trans hv
  have hK2 : W2.heap[D]? = some (.deferred (some [])) := by rw [← hW2]; exact (World.putObj_heap_other hDl).trans h.K
  have hL2 : W2.heap[l]? = some (.loop { apRec fn sv Bs D .ready none with state := .busy }) := by rw [← hW2]; exact World.putObj_heap_same hl
  have hrow2 : W2.ownsRow w0.heap.size 22 1 v ss.length (ss.map encU) := hrow.kept hg2 (ownsRow_ne hrow h.L (fun cur e => by cases e))
  have hb2 : Below w0.heap.size w0 W2 := h.below.grown hg2 h.below.size (fun k e => by cases e; exact h0l)
  obtain ⟨hc2, hf2⟩ := cell_of_box hv2
  have hBlt : Bs < W2.heap.size := (Array.getElem?_eq_some_iff.1 hv2).1
  have hl2 : l < W2.heap.size := (Array.getElem?_eq_some_iff.1 hL2).1
  have hDlt : D < W2.heap.size := (Array.getElem?_eq_some_iff.1 hK2).1
  have ne_of : ∀ {j : Nat} {o : Obj}, W2.heap[j]? = some o → (∀ cur, o ≠ .cells cur 22 (0, 0)) → some j ≠ v.ownBlock := fun hj hno => by
    rcases ownsRow_ne hrow2 hj hno with e | e
    · rw [e]; simp
    · exact fun e' => e e'.symm
  clear hW2
  unfold apAssign
  gi_wp2_with (rw [Oper.semAt_eq _ _ _ (fun c h => by cases h)]; go_simp; try go_bits)
  unfold apBody
  gi_wp2_with (first
    | (gi_at_builtin; refine wpListIn_append_own _ rfl _ _ 84 rfl w0.heap.size 22 i0 (.int .u32 0) 1 4 Tryz.underlying84 hi hz0 hz1 hz2 rfl (by decide) _ _ _ rfl (hrow2.alloc _) ⟨W2.heap.size, 0, none⟩ 1 1 [encU x] rfl rfl (cell_one_new _ _ _) (by simp [Value.oneCell', encU]) (by omega) (by omega) (by have := hb2.size; simp; omega) ?_; intro v' w3 hown' hg3 hnil3
       have hv3 : w3.heap[Bs]? = some (.cells #[v] 84 (0, 0)) := (hg3.block Bs (by simp; omega) (ne_of hv2 (fun cur e => by cases e))).trans ((Below.heap_alloc _ _ Bs hBlt).trans hv2)
       obtain ⟨hc3, hf3⟩ := cell_of_box hv3
       obtain ⟨g', cap', cur', rfl, hbase', hgb', hr1, hr2, hr3, hr4⟩ : ∃ g' cap' cur', v' = .slice (some ⟨g', 0, none⟩) (ss.length + 1) cap' ∧ w0.heap.size ≤ g' ∧ w3.heap[g']? = some (.cells cur' 22 (0, 0)) ∧ ss.length + 1 ≤ cap' ∧ cap' ≤ maxLen ∧ cur'.size = cap' * 1 ∧ cur'.toList.take ((ss.length + 1) * 1) = ss.map encU ++ [encU x] := by
         rcases hown'.2 with ⟨_, h0⟩ | h'
         · exact absurd h0 (by omega)
         · exact h'
       go_frame)
    | (rw [Oper.semAt_eq _ _ _ (fun c h => by cases h)]; go_simp; try go_bits))
  have hg3' : (W2.alloc (.cells #[encU x] 22)).grownBy w3 v.ownBlock := hg3
  have hL3 : w3.heap[l]? = some (.loop { apRec fn sv Bs D .ready none with state := .busy }) := (hg3'.block l (by simp; omega) (ne_of hL2 (fun cur e => by cases e))).trans ((Below.heap_alloc _ _ l hl2).trans hL2)
  have hK3 : w3.heap[D]? = some (.deferred (some [])) := (hg3'.block D (by simp; omega) (ne_of hK2 (fun cur e => by cases e))).trans ((Below.heap_alloc _ _ D hDlt).trans hK2)
  obtain ⟨w4, hw4⟩ : ∃ w4, w3.setCell ⟨Bs, 0, none⟩ (.slice (some ⟨g', 0, none⟩) (ss.length + 1) cap') = w4 := ⟨_, rfl⟩
  rw [hw4]
  have hg4 : w3.grownBy w4 (some Bs) := by rw [← hw4]; exact grownBy_setCell0 _ _ _
  have hv4 : w4.heap[Bs]? = some (.cells #[.slice (some ⟨g', 0, none⟩) (ss.length + 1) cap'] 84 (0, 0)) := by rw [← hw4]; exact heap_setCell_box _ hv3
  have hL4 : w4.heap[l]? = some (.loop { apRec fn sv Bs D .ready none with state := .busy }) := (hg4.block l (Array.getElem?_eq_some_iff.1 hL3).1 (fun e => hBl (by cases e; rfl))).trans hL3
  have hK4 : w4.heap[D]? = some (.deferred (some [])) := (hg4.block D (Array.getElem?_eq_some_iff.1 hK3).1 (fun e => hDB (by cases e; rfl))).trans hK3
  have hrow4 := hown'.kept hg4 (ownsRow_ne hown' hv3 (fun cur e => by cases e))
  have hl4 : l < w4.heap.size := (Array.getElem?_eq_some_iff.1 hL4).1
  have hb3 : Below w0.heap.size w0 w3 := (hb2.alloc hb2.size _).grown hg3' (by have := hb2.size; simp; omega) (fun k e => (hrow2.lt k e).1)
  have hb4 : Below w0.heap.size w0 w4 := hb3.grown hg4 hb3.size (fun k e => by cases e; exact h0B)
  have hk4 : KeepsWalks W w4 := ((hk2.trans (KeepsWalks.alloc _ _)).trans (KeepsWalks.of_grownBy hg3' (ownsRow_not_walk (hrow2.alloc _)))).trans (by rw [← hw4]; exact KeepsWalks.setCell _ _ _)
  clear hw4
  refine ⟨_, _, run_endRound none hL4, rfl, ⟨⟨_, (World.putObj_heap_other hBl).trans hv4, ?_, by simp⟩, World.putObj_heap_same hl4, (World.putObj_heap_other hDl).trans hK4, hb4.grown (grownBy_putObj _ _ _) hb4.size (fun k e => by cases e; exact h0l)⟩, hk4.trans (KeepsWalks.putObj _ hL4 rfl)⟩
  have := hrow4.kept (grownBy_putObj w4 l (.loop { { apRec fn sv Bs D .ready none with state := .busy } with state := if (none : Option Code).isNone then .ready else .done, pending := none })) (ownsRow_ne hrow4 hL4 (fun cur e => by cases e))
  simpa using this

set_option maxRecDepth 100000 in
set_option maxHeartbeats 2000000 in
theorem appendSeq_in (F : Fence) (n : Nat) (h11 : F.fn 103) (hro : F.round = none) (hn : 2 ≤ n) (g : Nat) (lb : Array Value) (hFg : F.fn g) (eg : ∀ args w, (callFunc g args).run Tryz.prog w = .ok (.enter g args) w)
    (S : List Int → Prop) (N : Nat) (hN : N ≤ maxLen) (hNb : N * 4 ≤ 140737488355328) (w : World) (hseq : SeqGives F (n - 1) Tryz.prog g lb encU S N w) :
    CallsIn F n Tryz.prog 103 #[.slice none 0 0, .func (.func g) #[] lb] w fun e w' => ∃ (v : Value) (ss : List Int), e = .returned v ∧ S ss ∧ w'.ownsRow w.heap.size 22 1 v ss.length (ss.map encU) ∧ (v = .slice none 0 0 ↔ ss = []) ∧ Below w.heap.size w w' := by
  have h1 : 1 ≤ n := by omega
  refine callsIn_of_wp_marks Tryz.func103 rfl h11 ?_ hro
  simp only [Tryz.ntmps103, List.size_toArray, List.length_cons, List.length_nil, Nat.reduceAdd, Nat.reduceSub, Array.replicate_succ, Array.replicate_zero, List.push_toArray, List.append_toArray, List.nil_append, List.cons_append]
  gi_wp2
  refine wpIn_rangeFunc ?_
  intro fn hfn
  rw [hro]
  obtain ⟨W0, hW0⟩ : ∃ W0, w.alloc (.cells #[.slice none 0 0] 84) = W0 := ⟨_, rfl⟩
  have hs0 : W0.heap.size = w.heap.size + 1 := by rw [← hW0]; simp
  have hv0 : W0.heap[w.heap.size]? = some (.cells #[.slice none 0 0] 84 (0, 0)) := by rw [← hW0]; exact World.alloc_heap_new w _
  have hb0 : Below w.heap.size w W0 := by rw [← hW0]; exact (Below.refl _ w).alloc (Nat.le_refl _) _
  rw [hW0]
  obtain ⟨W1, hW1⟩ : ∃ W1, (W0.alloc (.deferred (some []))).alloc (.loop (apRec fn (.func (.func g) #[] lb) w.heap.size W0.heap.size .ready none)) = W1 := ⟨_, rfl⟩
  have hold : ∀ k, k < W0.heap.size → W1.heap[k]? = W0.heap[k]? := fun k hk => by
    rw [← hW1]; exact (Below.heap_alloc _ _ k (by simp; omega)).trans (Below.heap_alloc _ _ k hk)
  have hb1 : Below w.heap.size w W1 := by rw [← hW1]; exact (hb0.alloc hb0.size _).alloc (by have := hb0.size; simp; omega) _
  have hs1 : W1.heap.size = W0.heap.size + 2 := by rw [← hW1]; simp
  have hM : ApAt w fn (.func (.func g) #[] lb) w.heap.size (W0.heap.size + 1) W0.heap.size [] W1 :=
    ⟨⟨_, (hold w.heap.size (by omega)).trans hv0, ⟨rfl, .inl ⟨rfl, rfl⟩⟩, by simp⟩,
     by rw [← hW1]; have := World.alloc_heap_new (W0.alloc (.deferred (some []))) (.loop (apRec fn (.func (.func g) #[] lb) w.heap.size W0.heap.size .ready none)); rwa [World.size_alloc] at this,
     by rw [← hW1]; exact (Below.heap_alloc _ _ _ (by simp)).trans (World.alloc_heap_new W0 _), hb1⟩
  refine ⟨W0.heap.size + 1, [{ target := .collected W0.heap.size, args := #[] }], W1, { target := .fn (.func g) lb, args := #[.func (.yield (W0.heap.size + 1)) #[] #[]] }, W1, g,
    #[.func (.yield (W0.heap.size + 1)) #[] #[]] ++ lb, W1, ?_, ?_, ?_, ?_, fun _ => h1, ?_⟩
  · rw [← hW1]; exact run_enterLoop_outer _ _ _ _ _
  · simp [resolve, go_sem]
  · intro f' hf'; simp [Target.leads] at hf'; subst hf'; exact hFg
  · simp [invoke, go_sem, eg]
  · refine (hseq (W0.heap.size + 1) (ApAt w fn (.func (.func g) #[] lb) w.heap.size (W0.heap.size + 1) W0.heap.size) W1 hb1 (ap_abides _ _ _ _ _ _ _ hb1.size)
      (fun pre x W hJ hl => apYield F (n - 1 - 1) w fn hfn _ w.heap.size (W0.heap.size + 1) W0.heap.size (by omega) (by omega) (by omega) (Nat.le_refl _) (by omega) N hN hNb pre x W hJ hl) hM).mono ?_
    rintro e W2 ⟨⟨v0, rfl⟩, ss, hS, h2⟩
    obtain ⟨v, hv, hrow, hnil⟩ := h2.box
    have hend := run_endLoop (P := Tryz.prog) h2.L (by simp [apRec])
    obtain ⟨W3, hW3⟩ : ∃ W3, W2.putObj (W0.heap.size + 1) (.loop { apRec fn (.func (.func g) #[] lb) w.heap.size W0.heap.size .ready none with state := .exhausted }) = W3 := ⟨_, rfl⟩
    rw [hW3] at hend
    have hg3 : W2.grownBy W3 (some (W0.heap.size + 1)) := by rw [← hW3]; exact grownBy_putObj _ _ _
    have hv3 : W3.heap[w.heap.size]? = some (.cells #[v] 84 (0, 0)) := by rw [← hW3]; exact (World.putObj_heap_other (by omega)).trans hv
    have hK3 : W3.heap[W0.heap.size]? = some (.deferred (some [])) := by rw [← hW3]; exact (World.putObj_heap_other (by omega)).trans h2.K
    have hrow3 := hrow.kept hg3 (ownsRow_ne hrow h2.L (fun cur e => by cases e))
    have hb3 : Below w.heap.size w W3 := h2.below.grown hg3 h2.below.size (fun k e => by cases e; omega)
    obtain ⟨hc3, hf3⟩ := cell_of_box hv3
    clear hW3
    refine ⟨none, W3, hend, ?_⟩
    gi_wp2
    rw [← hs0]
    refine ⟨by simp, .inl ⟨_, _, rfl, run_takeDeferred hK3, ?_⟩⟩
    exact ⟨_, results_tmp rfl _ _ _, v, ss, rfl, hS, hrow3.kept (grownBy_putObj _ _ _) (ownsRow_ne hrow3 hK3 (fun cur e => by cases e)), hnil, hb3.grown (grownBy_putObj _ _ _) hb3.size (fun k e => by cases e; omega)⟩

set_option maxHeartbeats 1000000 in
theorem collect_in (F : Fence) (n : Nat) (h8 : F.fn 74) (h11 : F.fn 103) (hro : F.round = none) (hn : 3 ≤ n) (g : Nat) (lb : Array Value) (hFg : F.fn g) (eg : ∀ args w, (callFunc g args).run Tryz.prog w = .ok (.enter g args) w)
    (S : List Int → Prop) (N : Nat) (hN : N ≤ maxLen) (hNb : N * 4 ≤ 140737488355328) (w : World) (hseq : SeqGives F (n - 1 - 1) Tryz.prog g lb encU S N w) :
    CallsIn F n Tryz.prog 74 #[.func (.func g) #[] lb] w fun e w' => ∃ (v : Value) (ss : List Int), e = .returned v ∧ S ss ∧ w'.ownsRow w.heap.size 22 1 v ss.length (ss.map encU) ∧ (v = .slice none 0 0 ↔ ss = []) ∧ Below w.heap.size w w' := by
  have h1 : 1 ≤ n := by omega
  refine callsIn_of_wp Tryz.func74 rfl h8 ?_ hro
  simp only [Tryz.ntmps74, List.size_toArray, List.length_cons, List.length_nil, Nat.reduceAdd, Nat.reduceSub, Array.replicate_succ, Array.replicate_zero, List.push_toArray, List.append_toArray, List.nil_append, List.cons_append]
  gi_wp2_with (gi_at_call 103; refine (appendSeq_in F (n - 1) h11 hro (by omega) g lb hFg eg S N hN hNb _ hseq).mono ?_; rintro e w' ⟨v, ss, rfl, hS, hrow, hnil, hb⟩)
  go_ret
  exact ⟨v, ss, rfl, hS, hrow, hnil, hb⟩

end Go.Proofs.YtndpgakjpokllaaGreat

/- slices.Sorted(maps.Keys(m)) at a map[uint32]byte. -/
namespace Go.Proofs.YtndpgakjpokllaaGreat
open Go.RowKit Go.Maps Go.Shelf
set_option linter.unusedVariables false
set_option linter.unusedSimpArgs false

theorem keys_any (b : Nat) (w : World) :
    Calls Tryz.prog 42 #[.map (some b)] w fun e w' => e = .returned (.func (.func 76) #[] #[.pointer (some ⟨w.heap.size, 0, none⟩)]) ∧ w' = w.alloc (.cells #[.map (some b)] 78) :=
  callsIn_wide.1 (keys_in Fence.wide 1 trivial rfl _ _)

/-- A list of words lies in a slice of one's own. -/
def WordsAt (base : Nat) (w : World) (v : Value) (ss : List Int) : Prop :=
  (v = .slice none 0 0 ∧ ss = []) ∨ ∃ g cap, v = .slice (some ⟨g, 0, none⟩) ss.length cap ∧ base ≤ g ∧ Row w g ss.toArray

theorem row_of_owns {w : World} {g : Nat} {cur : Array Value} {e : TypeId} {ss : List Int} (hb : w.heap[g]? = some (.cells cur e (0, 0))) (ht : cur.toList.take (ss.length * 1) = ss.map encU) : Row w g ss.toArray := by
  intro j hj
  have hj' : j < ss.length := by simpa using hj
  refine ⟨?_, by simp [World.frozen?, hb]⟩
  rw [Nat.mul_one] at ht
  have h1 : (cur.toList.take ss.length)[j]? = (ss.map encU)[j]? := by rw [ht]
  rw [List.getElem?_take_of_lt hj'] at h1
  simp only [World.cell?, hb]
  simp only [Option.isSome_none, Bool.false_eq_true, if_false]
  rw [← Array.getElem?_toList, h1]
  simp [hj', encU]

/-- The keys of such a map: each once; they are words; just those that it has. -/
theorem keysU_of {H : Type} {w : World} {b nn : Nat} {R : Value → Option (DataW H × List MemPlace)} {D0 : DataW H} (hown : w.ownsMap Tryz.prog 22 R b nn D0) :
    (intKeys D0).Nodup ∧ (∀ x, x ∈ intKeys D0 ↔ has D0 (.int .u32 x) = true) ∧ (∀ x, x ∈ intKeys D0 → (Lit.int .u32 x).wf = true) ∧ (intKeys D0).length ≤ nn := by
  obtain ⟨es0, clock, _, _, hs, hD0⟩ := hown
  have hown : w.ownsMap Tryz.prog 22 R b nn D0 := ⟨es0, clock, ‹_›, ‹_›, hs, hD0⟩
  obtain ⟨es, hD, hpw, _⟩ := hown.entries lawK
  obtain ⟨es', hD', hko⟩ := hown.keysOf
  subst hD
  have e : es = es' := by simpa using hD'
  subst e
  have key : ∀ p ∈ es, p.1 = .int .u32 (intOf p.1) ∧ (Lit.int .u32 (intOf p.1)).wf = true := fun p hp' => by
    obtain ⟨v, hv⟩ := hko p hp'
    obtain ⟨x, _, hx, hw⟩ := Maps.keyOf_int_inv Tryz.underlying22 hv
    rw [hx]
    exact ⟨rfl, hw⟩
  refine ⟨?_, fun x => ?_, fun x hx => ?_, ?_⟩
  · show (es.map fun p => intOf p.1).Nodup
    rw [List.Nodup, List.pairwise_map]
    exact hpw.imp_of_mem fun {p q} hp' hq' hne e => hne (by rw [(key p hp').1, (key q hq').1, e])
  · rw [has_eq, List.any_eq_true]
    constructor
    · intro hx
      obtain ⟨p, hp', rfl⟩ := List.mem_map.1 hx
      exact ⟨p, hp', by rw [(key p hp').1]; simp [Lit.sameKey, intOf]⟩
    · rintro ⟨p, hp', hs'⟩
      refine List.mem_map.2 ⟨p, hp', ?_⟩
      rw [(key p hp').1] at hs'
      simpa [Lit.sameKey] using hs'
  · obtain ⟨p, hp', rfl⟩ := List.mem_map.1 hx
    exact (key p hp').2
  · show (es.map fun p => intOf p.1).length ≤ nn
    have hl : es = (es0.toList.map (WideElems.rg Tryz.prog 22 R)).foldr DataW.insert [] := by simpa using hD0
    rw [List.length_map, hl, length_sorted, List.length_map]
    exact hs

/-- What comes of slices.Sorted over a map's keys. -/
def RetKeys {H : Type} (D0 : DataW H) (w : World) (e : Ending) (w' : World) : Prop :=
  ∃ v, e = .returned v ∧ WordsAt w.heap.size w' v ((intKeys D0).mergeSort leI) ∧ Below w.heap.size w w'

theorem sorted_any {H : Type} (b nn Bm : Nat) (D0 : DataW H) (w : World) (hown : w.ownsMap Tryz.prog 22 (plainElem Tryz.prog 5) b nn D0) (hm : w.cell? ⟨Bm, 0, none⟩ = some (.map (some b))) (hmax : nn ≤ 100000) :
    Calls Tryz.prog 41 #[.func (.func 76) #[] #[.pointer (some ⟨Bm, 0, none⟩)]] w (RetKeys D0 w) := by
  have hbm : Bm < w.heap.size := block_lt hm
  have hseq : SeqGives Fence.wide 1 Tryz.prog 76 #[.pointer (some ⟨Bm, 0, none⟩)] encU (fun ss => ss.Perm (intKeys D0)) (Maps.size D0) w :=
    keys_gives Fence.wide 1 trivial rfl (Nat.le_refl _) Bm b nn D0 w hbm hm hown
  have hlen : maxLen ≥ 100000 := by decide
  have hszD : Maps.size D0 ≤ nn := by
    have := (keysU_of hown).2.2.2
    cases D0 <;> simp_all [Maps.size, intKeys]
  have CC := callsIn_wide.1 (collect_in Fence.wide 3 trivial trivial rfl (Nat.le_refl _) 76 #[.pointer (some ⟨Bm, 0, none⟩)] trivial (enters_of Tryz.func76 (by kernel_rfl) rfl) (fun ss => ss.Perm (intKeys D0)) (Maps.size D0) (by omega) (by omega) w hseq)
  have C := Lib.hid CC
  clear CC hseq
  go_enter Tryz.func41, Tryz.ntmps41
  go_wp2_with fail
  refine C.out.mono ?_
  rintro e w1 ⟨v, ss, rfl, hperm, hrow, hnil, hbl⟩
  have hmem : ss.mergeSort leI = (intKeys D0).mergeSort leI := mergeSort_of_perm_i hperm
  have hsz : ss.length ≤ 100000 := by
    rw [hperm.length_eq]
    have := (keysU_of hown).2.2.2
    omega
  rcases hrow.2 with ⟨rfl, hz⟩ | ⟨g, cap, cur, rfl, hbase, hgb, r1, r2, r3, r4⟩
  · have hss : ss = [] := List.eq_nil_of_length_eq_zero hz
    subst hss
    have HB := Lib.hid hbl
    have HM := Lib.hid hmem
    have C2 := Lib.hid (sort_nil w1)
    clear hbl hmem hrow hperm hnil
    go_wp2_with fail
    refine C2.out.mono ?_
    rintro e w2 ⟨rfl, hw2⟩
    rw [hw2]
    clear hw2
    go_wp2_with fail
    go_ret
    exact ⟨_, rfl, .inl ⟨rfl, by rw [← HM.out]; simp⟩, HB.out⟩
  · have hR := row_of_owns hgb r4
    have HB := Lib.hid hbl
    have HM := Lib.hid hmem
    have C2 := Lib.hid (sort_any g ss.length cap ss.toArray (by simp) hsz w1 hR)
    clear hbl hmem hrow hperm hnil r1 r2 r3 r4 hgb hR
    go_wp2_with fail
    refine C2.out.mono ?_
    rintro e w2 ⟨rfl, hg, d', hd, hr⟩
    have HG := Lib.hid hg
    have HD := Lib.hid hd
    have HRR := Lib.hid hr
    clear hg hd hr
    go_wp2_with fail
    go_ret
    have e1 : d' = ((intKeys D0).mergeSort leI).toArray := by
      have h1 := HD.out
      rw [List.toList_toArray, HM.out] at h1
      rw [← h1, Array.toArray_toList]
    have e2 : ss.length = ((intKeys D0).mergeSort leI).length := by rw [← HM.out, List.length_mergeSort]
    refine ⟨_, rfl, .inr ⟨g, cap, by rw [← e2]; rfl, hbase, ?_⟩, HB.out.grown HG.out HB.out.size fun j hj => by cases hj; exact hbase⟩
    rw [← e1]
    exact HRR.out

end Go.Proofs.YtndpgakjpokllaaGreat

/- package mem: the bytes of a map, as a function; put. -/
namespace Go.Proofs.YtndpgakjpokllaaGreat
open Go.RowKit Go.Maps
set_option linter.unusedVariables false
set_option linter.unusedSimpArgs false

/-- A byte is laid. -/
def updM (M : Int → Int) (a v : Int) : Int → Int := fun x => if x = a then v else M x

/-- Block b is a map that has these bytes; those that are 0 aren't there. -/
def MapAt (w : World) (b n : Nat) (M : Int → Int) : Prop :=
  ∃ D : DataW Unit, w.ownsMap Tryz.prog 22 (plainElem Tryz.prog 5) b n D ∧ ∀ a, D.atKey (.int .u32 a) (.lit (.int .u8 0)) = .lit (.int .u8 (M a)) ∧ has D (.int .u32 a) = decide (M a ≠ 0)

theorem MapAt.lt {w : World} {b n : Nat} {M : Int → Int} (h : MapAt w b n M) : b < w.heap.size := by
  obtain ⟨D, hD, _⟩ := h
  exact hD.lt

theorem MapAt.of_block {w w' : World} {b n : Nat} {M : Int → Int} (h : MapAt w b n M) (hb : w'.heap[b]? = w.heap[b]?) : MapAt w' b n M := by
  obtain ⟨D, ⟨es, clock, h1, h2⟩, hM⟩ := h
  exact ⟨D, ⟨es, clock, hb.trans h1, h2⟩, hM⟩

theorem MapAt.nx {w w' : World} {b n : Nat} {M : Int → Int} (h : MapAt w b n M) (hn : Nx w w') : MapAt w' b n M := h.of_block (Below.block hn b h.lt)

theorem MapAt.mono {w : World} {b n n' : Nat} {M : Int → Int} (h : MapAt w b n M) (hn : n ≤ n') : MapAt w b n' M := by
  obtain ⟨D, hD, hM⟩ := h
  exact ⟨D, hD.mono hn, hM⟩

theorem keyU {a : Int} (h0 : 0 ≤ a) (h1 : a < 4294967296) : keyOf Tryz.prog 22 (.int .u32 a) = some (.int .u32 a) := by
  have hw : (Lit.int .u32 a).wf = true := by
    simp [Lit.wf, IntKind.min, IntKind.max, IntKind.signed, IntKind.bits]
    omega
  exact keyOf_int_mk Tryz.underlying22 hw

theorem wfU8 {v : Int} (h0 : 0 ≤ v) (h1 : v < 256) : (Lit.int .u8 v).wf = true := by
  simp [Lit.wf, IntKind.min, IntKind.max, IntKind.signed, IntKind.bits]
  omega

/-- m[a]. -/
theorem MapAt.read {w : World} {b n : Nat} {M : Int → Int} (h : MapAt w b n M) {a : Int} (h0 : 0 ≤ a) (h1 : a < 4294967296) :
    (Instr.lookup 78 (.map (some b)) (.int .u32 a) false).run Tryz.prog w = .ok (.int .u8 (M a)) w ∧ 0 ≤ M a ∧ M a < 256 := by
  obtain ⟨D, hD, hM⟩ := h
  obtain ⟨c, hrun, hat, hwc⟩ := hD.lookup_int lawK Tryz.underlying78 Tryz.underlying5 (Tryz.zeroValue5 w) (keyU h0 h1)
  have e : M a = c := by
    have := (hM a).1.symm.trans hat
    simpa using this
  rw [e]
  refine ⟨hrun, ?_⟩
  have h2 := hwc
  simp [Lit.wf, IntKind.min, IntKind.max, IntKind.signed, IntKind.bits] at h2
  omega

theorem isKeyU (a : Int) : WideAt.IsKeyLit (.int .u32 a) := by
  simp [WideAt.IsKeyLit]

/-- m[a] = v, of a byte that isn't 0. -/
theorem MapAt.put {w : World} {b n : Nat} {M : Int → Int} (h : MapAt w b n M) (hn : n < 100000) {a v : Int} (h0 : 0 ≤ a) (h1 : a < 4294967296) (v0 : 0 < v) (v1 : v < 256) :
    ∃ w', (Instr.mapUpdate 78 (.map (some b)) (.int .u32 a) (.int .u8 v)).run Tryz.prog w = .ok () w' ∧ MapAt w' b (n + 1) (updM M a v) ∧ w.grownBy w' (some b) := by
  obtain ⟨D, hD, hM⟩ := h
  have hmax : 100000 ≤ maxLen := by decide
  obtain ⟨w', hrun, hD', hg⟩ := hD.update lawK Tryz.underlying78 (by omega) (keyU h0 h1) (plainElem_int Tryz.underlying5 (wfU8 (Int.le_of_lt v0) v1))
  refine ⟨w', hrun, ⟨_, hD', fun x => ?_⟩, hg⟩
  unfold updM
  by_cases hx : x = a
  · subst hx
    rw [if_pos rfl]
    exact ⟨atKey_put_same hD.isMap (isKeyU x) _ _, (has_put_same hD.isMap (isKeyU x) _).trans (by simp; omega)⟩
  · rw [if_neg hx]
    have hne : (Lit.int .u32 x) ≠ .int .u32 a := fun e => hx (by injection e)
    rw [atKey_put_other hne, has_put_other hne]
    exact hM x

/-- delete(m, a). -/
theorem MapAt.del {w : World} {b n : Nat} {M : Int → Int} (h : MapAt w b n M) {a : Int} (h0 : 0 ≤ a) (h1 : a < 4294967296) (ty : TypeId) :
    ∃ w', (Builtin.delete_ #[78, 22] ty #[.map (some b), .int .u32 a]).run Tryz.prog w = .ok (.tuple #[]) w' ∧ MapAt w' b n (updM M a 0) ∧ w.grownBy w' (some b) := by
  obtain ⟨D, hD, hM⟩ := h
  obtain ⟨w', hrun, hD', hg⟩ := hD.drop lawK Tryz.underlying78 (keyU h0 h1) ty
  refine ⟨w', hrun, ⟨_, hD', fun x => ?_⟩, hg.grown⟩
  unfold updM
  by_cases hx : x = a
  · subst hx
    rw [if_pos rfl]
    exact ⟨atKey_del_same _, has_del_same.trans (by simp)⟩
  · rw [if_neg hx]
    have hne : (Lit.int .u32 x) ≠ .int .u32 a := fun e => hx (by injection e)
    rw [atKey_del_other hne, has_del_other hne]
    exact hM x

theorem MapAt.made (w : World) : MapAt (w.alloc (.map #[] 0)) w.heap.size 0 (fun _ => 0) :=
  ⟨_, World.ownsMap_made w _ _ _, fun a => ⟨rfl, rfl⟩⟩

/-- Its keys, rising. -/
def KeysOf (M : Int → Int) (K : List Int) : Prop := K.Pairwise (· < ·) ∧ (∀ a, a ∈ K ↔ M a ≠ 0) ∧ ∀ a, a ∈ K → 0 ≤ a ∧ a < 4294967296

theorem rising {l : List Int} (h : l.Nodup) : (l.mergeSort leI).Pairwise (· < ·) := by
  have tr : ∀ a b c : Int, leI a b = true → leI b c = true → leI a c = true := fun a b c h1 h2 => by
    simp only [leI, decide_eq_true_eq] at *
    omega
  have tot : ∀ a b : Int, (leI a b || leI b a) = true := fun a b => by
    simp only [leI, Bool.or_eq_true, decide_eq_true_eq]
    omega
  have h1 := List.pairwise_mergeSort tr tot l
  have h2 : (l.mergeSort leI).Pairwise (· ≠ ·) := (List.mergeSort_perm l leI).nodup_iff.2 h
  refine h1.imp₂ (fun a b hab hne => ?_) h2
  simp only [leI, decide_eq_true_eq] at hab
  omega

/-- slices.Sorted(maps.Keys(m)). -/
def RetSorted (M : Int → Int) (w : World) (e : Ending) (w' : World) : Prop := ∃ v K, e = .returned v ∧ KeysOf M K ∧ K.length ≤ 100000 ∧ WordsAt w.heap.size w' v K ∧ Nx w w'

theorem MapAt.sorted {w : World} {b n : Nat} {M : Int → Int} (h : MapAt w b n M) (hn : n ≤ 100000) (Bm : Nat) (hm : w.cell? ⟨Bm, 0, none⟩ = some (.map (some b))) :
    Calls Tryz.prog 41 #[.func (.func 76) #[] #[.pointer (some ⟨Bm, 0, none⟩)]] w (RetSorted M w) := by
  obtain ⟨D, hD, hM⟩ := h
  refine (sorted_any b n Bm D w hD hm hn).mono ?_
  rintro e w' ⟨v, rfl, hw, hb⟩
  obtain ⟨k1, k2, k3, k4⟩ := keysU_of hD
  refine ⟨v, _, rfl, ⟨rising k1, fun a => ?_, fun a ha => ?_⟩, by rw [List.length_mergeSort]; omega, hw, hb⟩
  · rw [(List.mergeSort_perm _ _).mem_iff, k2, (hM a).2, decide_eq_true_eq]
  · have h2 := k3 a ((List.mergeSort_perm _ _).mem_iff.1 ha)
    simp [Lit.wf, IntKind.min, IntKind.max, IntKind.signed, IntKind.bits] at h2
    omega

/-- The memory behind a pointer. -/
def MemAt (w : World) (pm b n : Nat) (M : Int → Int) : Prop := w.cell? ⟨pm, 0, none⟩ = some (.map (some b)) ∧ MapAt w b n M

theorem MemAt.ne {w : World} {pm b n : Nat} {M : Int → Int} (h : MemAt w pm b n M) : pm ≠ b := by
  rintro rfl
  obtain ⟨hc, D, ⟨es, clock, hb, _⟩, _⟩ := h
  simp [World.cell?, hb] at hc

theorem MemAt.nx {w w' : World} {pm b n : Nat} {M : Int → Int} (h : MemAt w pm b n M) (hn : Nx w w') : MemAt w' pm b n M := ⟨hn.cell h.1, h.2.nx hn⟩

theorem MemAt.turned {w w' : World} {pm b n n' : Nat} {M M' : Int → Int} (h : MemAt w pm b n M) (h' : MapAt w' b n' M') (hg : w.grownBy w' (some b)) : MemAt w' pm b n' M' :=
  ⟨hg.cell h.1 (fun e => h.ne (by injection e)), h'⟩

/-- What comes of laying bytes. -/
def RetLaid (pm b n : Nat) (M : Int → Int) (w : World) (e : Ending) (w' : World) : Prop := e = .returned (.tuple #[]) ∧ MemAt w' pm b n M ∧ w.grownBy w' (some b)

set_option maxHeartbeats 1000000 in
theorem put_any (pm b n : Nat) (M : Int → Int) (a v : Int) (hn : n < 100000) (h0 : 0 ≤ a) (h1 : a < 4294967296) (v0 : 0 ≤ v) (v1 : v < 256) (w : World) (h : MemAt w pm b n M) :
    Calls Tryz.prog 39 #[.pointer (some ⟨pm, 0, none⟩), .int .u32 a, .int .u8 v] w (RetLaid pm b (n + 1) (updM M a v) w) := by
  have hc := h.1
  have H := Lib.hid h
  by_cases hv : v = 0
  · subst hv
    obtain ⟨w', hrun, hm, hg⟩ := h.2.del h0 h1 0
    have HM := Lib.hid hm
    have HG := Lib.hid hg
    clear h hm hg
    go_enter Tryz.func39, Tryz.ntmps39
    go_wp2_with fail
    go_end0
    exact ⟨rfl, H.out.turned (HM.out.mono (Nat.le_succ _)) HG.out, HG.out⟩
  · obtain ⟨w', hrun, hm, hg⟩ := h.2.put hn h0 h1 (v := v) (by omega) v1
    have HM := Lib.hid hm
    have HG := Lib.hid hg
    have hvb : (v == 0) = false := by rw [beq_eq_false_iff_ne]; exact hv
    clear h hm hg
    go_enter Tryz.func39, Tryz.ntmps39
    go_wp2_with fail
    go_end0
    exact ⟨rfl, H.out.turned HM.out HG.out, HG.out⟩

end Go.Proofs.YtndpgakjpokllaaGreat

/- package mem: Load. -/
namespace Go.Proofs.YtndpgakjpokllaaGreat
open Go.RowKit Go.Maps
set_option linter.unusedVariables false
set_option linter.unusedSimpArgs false

/-- So many bytes from an address on are a number. -/
def loadM (M : Int → Int) (a : Int) : Nat → Int
  | 0 => 0
  | k + 1 => loadM M a k + M ((a + k) % 4294967296) * 256 ^ k

/-- Bytes are a number's. -/
def storeM (M : Int → Int) (a v : Int) : Nat → (Int → Int)
  | 0 => M
  | k + 1 => updM (storeM M a v k) ((a + k) % 4294967296) (v / 256 ^ k % 256)

/-- All are bytes. -/
def Bytes (M : Int → Int) : Prop := ∀ a, 0 ≤ a → a < 4294967296 → 0 ≤ M a ∧ M a < 256

theorem MapAt.bytes {w : World} {b n : Nat} {M : Int → Int} (h : MapAt w b n M) : Bytes M := fun a h0 h1 => (h.read h0 h1).2

theorem loadM_bounds {M : Int → Int} (h : Bytes M) (a : Int) : ∀ n, 0 ≤ loadM M a n ∧ loadM M a n < 256 ^ n
  | 0 => by simp [loadM]
  | k + 1 => by
    obtain ⟨h1, h2⟩ := loadM_bounds h a k
    obtain ⟨h3, h4⟩ := h ((a + k) % 4294967296) (by omega) (by omega)
    have hp : (0 : Int) < 256 ^ k := Int.pow_pos (by decide)
    unfold loadM
    rw [Int.pow_succ]
    have h5 := Int.mul_nonneg h3 (Int.le_of_lt hp)
    have h6 : M ((a + k) % 4294967296) * 256 ^ k ≤ 255 * 256 ^ k := Int.mul_le_mul_of_nonneg_right (by omega) (Int.le_of_lt hp)
    omega

theorem wp_lookup_map {ops : Array Oper} {rest : List Oper} {o : Oper} {a : Act} {Q : Exit → Act → World → Prop} (w : World) (hg : o.guard = none) (m x : Operand) (hop : o.op = Op.lookup 78 m x false) (b n : Nat) (M : Int → Int)
    (hm : a.eval m = .map (some b)) (hM : MapAt w b n M) (key : Int) (hx : a.eval x = .int .u32 key) (h0 : 0 ≤ key) (h1 : key < 4294967296)
    (hK : ∀ c : Int, c = M key → 0 ≤ c → c < 256 → wpList Tryz.prog ops Q rest (a.put o.dst (.int .u8 c)) w) : wpList Tryz.prog ops Q (o :: rest) a w := by
  refine wpList_plain hg fun K' hK' => ?_
  obtain ⟨hrun, h2, h3⟩ := hM.read h0 h1
  unfold Oper.wp
  simp [execOp, hop, hm, hx, hrun, Result.andThen]
  exact hK' _ _ (hK _ rfl h2 h3)

theorem or_0 {L c : Int} (h1 : 0 ≤ L) (h2 : L < 256 ^ 0) (h3 : 0 ≤ c) (h4 : c < 256) : bits BinOp.or IntKind.u32 L c = L + c * 256 ^ 0 := by
  have := or_spell L c 0 (by omega) h1 (by simpa using h2) h3 (by omega)
  simpa using this

theorem or_1 {L c : Int} (h1 : 0 ≤ L) (h2 : L < 256 ^ 1) (h3 : 0 ≤ c) (h4 : c < 256) : bits BinOp.or IntKind.u32 L (c * 256) = L + c * 256 ^ 1 := by
  have := or_spell L c 8 (by omega) h1 (by simpa using h2) h3 (by omega)
  simpa using this

theorem or_2 {L c : Int} (h1 : 0 ≤ L) (h2 : L < 256 ^ 2) (h3 : 0 ≤ c) (h4 : c < 256) : bits BinOp.or IntKind.u32 L (c * 65536) = L + c * 256 ^ 2 := by
  have := or_spell L c 16 (by omega) h1 (by simpa using h2) h3 (by omega)
  simpa using this

theorem or_3 {L c : Int} (h1 : 0 ≤ L) (h2 : L < 256 ^ 3) (h3 : 0 ≤ c) (h4 : c < 256) : bits BinOp.or IntKind.u32 L (c * 16777216) = L + c * 256 ^ 3 := by
  have := or_spell L c 24 (by omega) h1 (by simpa using h2) h3 (by omega)
  simpa using this

set_option maxHeartbeats 1000000 in
theorem load_any (pm b n : Nat) (M : Int → Int) (a : Int) (k : Nat) (hk : k ≤ 4) (h0 : 0 ≤ a) (h1 : a < 4294967296) (w : World) (h : MemAt w pm b n M) :
    Calls Tryz.prog 29 #[.pointer (some ⟨pm, 0, none⟩), .int .u32 a, .int .i64 k] w fun e w' => e = .returned (.int .u32 (loadM M a k)) ∧ w' = w := by
  have hc := h.1
  have H := Lib.hid h
  have HB := Lib.hid h.2.bytes
  clear h
  have hkI : (0 : Int) ≤ k := by omega
  have hk4 : (k : Int) ≤ 4 := by omega
  go_enter Tryz.func29, Tryz.ntmps29
  go_wp2_with fail
  go_loopw [7, 8, 12] (fun vv _ iv wr => ∃ i : Nat, i ≤ k ∧ vv = .int .u32 (loadM M a i) ∧ iv = .int .i64 i ∧ wr = w) (fun _ _ iv _ => k - (RowKit.intOf iv).toNat)
  case atStart => exact ⟨0, Nat.zero_le _, rfl, rfl, rfl⟩
  case round =>
    obtain ⟨i, hi, rfl, rfl, rfl⟩ := hrel
    obtain ⟨hb1, hb2⟩ := loadM_bounds HB.out a i
    by_cases hik : i < k
    · obtain ⟨L, hL⟩ : ∃ x, loadM M a i = x := ⟨_, rfl⟩
      rw [hL] at hb1 hb2
      have HL := Lib.hid hL
      have e1 : loadM M a (i + 1) = L + M ((a + i) % 4294967296) * 256 ^ i := by rw [loadM, hL]
      have HE := Lib.hid e1
      clear hL e1
      rw [HL.out]
      obtain rfl | rfl | rfl | rfl : i = 0 ∨ i = 1 ∨ i = 2 ∨ i = 3 := by omega
      all_goals
        go_wp2_with (first | (at_lookup; refine wp_lookup_map _ rfl _ _ rfl b n M rfl H.out.2 _ rfl (by omega) (by omega) ?_; intro c hc0 hc1 hc2) | go_in)
        go_roundw
        case rel =>
          refine ⟨_, hik, ?_, by first | rfl | go_num, by first | rfl | trivial⟩
          rw [HE.out]
          congr 1
          subst hc0
          first
          | (rw [or_0 hb1 hb2 hc1 hc2]; congr 3; omega)
          | (rw [or_1 hb1 hb2 hc1 hc2]; rfl)
          | (rw [or_2 hb1 hb2 hc1 hc2]; rfl)
          | (rw [or_3 hb1 hb2 hc1 hc2]; rfl)
        case measure => simp [RowKit.intOf]; omega
    · obtain rfl : i = k := by omega
      go_wp2_with fail
      go_ret
      exact ⟨rfl, rfl⟩

end Go.Proofs.YtndpgakjpokllaaGreat

/- package mem: Store, New. -/
namespace Go.Proofs.YtndpgakjpokllaaGreat
open Go.RowKit Go.Maps
set_option linter.unusedVariables false
set_option linter.unusedSimpArgs false

theorem gb_trans {a b c : World} {g : Nat} (h : a.grownBy b (some g)) (k : b.grownBy c (some g)) : a.grownBy c (some g) := h.andThen k fun j hj => Or.inr hj

set_option maxHeartbeats 1000000 in
theorem store_mem (pm b n : Nat) (M : Int → Int) (a v : Int) (k : Nat) (hn : n + k ≤ 100000) (hk : k ≤ 4) (h0 : 0 ≤ a) (h1 : a < 4294967296) (v0 : 0 ≤ v) (v1 : v < 4294967296) (w : World) (h : MemAt w pm b n M) :
    Calls Tryz.prog 28 #[.pointer (some ⟨pm, 0, none⟩), .int .u32 a, .int .i64 k, .int .u32 v] w (RetLaid pm b (n + k) (storeM M a v k) w) := by
  have H := Lib.hid h
  clear h
  have hkI : (0 : Int) ≤ k := by omega
  have hk4 : (k : Int) ≤ 4 := by omega
  go_enter Tryz.func28, Tryz.ntmps28
  go_wp2_with fail
  go_loopw [8, 12] (fun _ iv wr => ∃ i : Nat, i ≤ k ∧ iv = .int .i64 i ∧ MemAt wr pm b (n + i) (storeM M a v i) ∧ w.grownBy wr (some b)) (fun _ iv _ => k - (RowKit.intOf iv).toNat)
  case atStart => exact ⟨0, Nat.zero_le _, rfl, H.out, World.grownBy.refl _ _⟩
  case round =>
    obtain ⟨i, hi, rfl, hm, hg⟩ := hrel
    have HM := Lib.hid hm
    have HG := Lib.hid hg
    clear hm hg
    by_cases hik : i < k
    · have HE := Lib.hid (show storeM M a v (i + 1) = updM (storeM M a v i) ((a + i) % 4294967296) (v / 256 ^ i % 256) from rfl)
      have C := Lib.hid (fun (x y : Int) (hx : x = (a + i) % 4294967296) (hy : y = v / 256 ^ i % 256) => (show Calls Tryz.prog 39 #[.pointer (some ⟨pm, 0, none⟩), .int .u32 x, .int .u8 y] wr (RetLaid pm b (n + i + 1) (storeM M a v (i + 1)) wr) by
        subst hx; subst hy
        exact put_any pm b (n + i) (storeM M a v i) ((a + i) % 4294967296) (v / 256 ^ i % 256) (by omega) (by omega) (by omega) (by omega) (by omega) wr HM.out))
      obtain rfl | rfl | rfl | rfl : i = 0 ∨ i = 1 ∨ i = 2 ∨ i = 3 := by omega
      all_goals
        go_wp2_with (go_at_call 39; refine (C.out _ _ (by first | rfl | omega | (simp; done) | (simp; omega)) (by first | rfl | omega | (simp; done) | (simp; omega))).mono ?_; rintro e w2 ⟨rfl, hm2, hg2⟩)
        go_roundw
        case rel => exact ⟨_, hik, by first | rfl | go_num, hm2, gb_trans HG.out hg2⟩
        case measure => simp [RowKit.intOf]; omega
    · obtain rfl : i = k := by omega
      go_wp2_with fail
      go_end0
      exact ⟨rfl, HM.out, HG.out⟩

/-- A slice of cells: an address and a byte each. -/
def CellsAt (w : World) (v : Value) (L : List (Int × Int)) : Prop :=
  ((∃ A, v = .slice A 0 0) ∧ L = []) ∨ ∃ g o c, v = .slice (some ⟨g, o, none⟩) L.length c ∧ L.length ≤ c ∧ c ≤ maxLen ∧
    ∀ (k : Nat) (x : Int × Int), L[k]? = some x → w.cell? ⟨g, o + k * 2, none⟩ = some (.int .u32 x.1) ∧ w.cell? ⟨g, o + k * 2 + 1, none⟩ = some (.int .u8 x.2)

theorem CellsAt.nx {w w' : World} {v : Value} {L : List (Int × Int)} (h : CellsAt w v L) (hn : Nx w w') : CellsAt w' v L := by
  rcases h with h | ⟨g, o, c, h1, h2, h3, h4⟩
  · exact .inl h
  · exact .inr ⟨g, o, c, h1, h2, h3, fun k x hx => ⟨hn.cell (h4 k x hx).1, hn.cell (h4 k x hx).2⟩⟩

theorem CellsAt.form {w : World} {v : Value} {L : List (Int × Int)} (h : CellsAt w v L) : ∃ A c, v = .slice A L.length c ∧ L.length ≤ c ∧ c ≤ maxLen ∧ ∀ (k : Nat) (x : Int × Int), L[k]? = some x →
    ∃ g o, A = some ⟨g, o, none⟩ ∧ w.cell? ⟨g, o + k * 2, none⟩ = some (.int .u32 x.1) ∧ w.cell? ⟨g, o + k * 2 + 1, none⟩ = some (.int .u8 x.2) := by
  rcases h with ⟨⟨A, rfl⟩, rfl⟩ | ⟨g, o, c, rfl, h2, h3, h4⟩
  · exact ⟨A, 0, rfl, Nat.le_refl _, Nat.zero_le _, fun k x hx => by cases hx⟩
  · exact ⟨_, c, rfl, h2, h3, fun k x hx => ⟨g, o, rfl, h4 k x hx⟩⟩

/-- The bytes that cells lay, the last one of an address. -/
def memOf (L : List (Int × Int)) : Int → Int := L.foldl (fun M c => updM M c.1 c.2) fun _ => 0

theorem memOf_snoc (L : List (Int × Int)) (k : Nat) (x : Int × Int) (h : L[k]? = some x) : memOf (L.take (k + 1)) = updM (memOf (L.take k)) x.1 x.2 := by
  rw [take_snoc' L k x h]
  unfold memOf
  rw [List.foldl_append]
  rfl

/-- All are cells. -/
def IsCells (L : List (Int × Int)) : Prop := ∀ x ∈ L, 0 ≤ x.1 ∧ x.1 < 4294967296 ∧ 0 ≤ x.2 ∧ x.2 < 256

/-- A new memory. -/
def RetMem (n : Nat) (M : Int → Int) (w : World) (e : Ending) (w' : World) : Prop := ∃ pm b, e = .returned (.pointer (some ⟨pm, 0, none⟩)) ∧ w.heap.size ≤ pm ∧ w.heap.size ≤ b ∧ MemAt w' pm b n M ∧ Nx w w'

set_option maxHeartbeats 1000000 in
theorem new_mem (v : Value) (L : List (Int × Int)) (hL : IsCells L) (hn : L.length ≤ 100000) (w : World) (h : CellsAt w v L) : Calls Tryz.prog 18 #[v] w (RetMem L.length (memOf L) w) := by
  obtain ⟨A, c, rfl, hc1, hc2, hcell⟩ := h.form
  have HC := Lib.hid hcell
  clear h hcell
  go_enter Tryz.func18, Tryz.ntmps18
  have hmm := @run_makeMap Tryz.prog
  go_wp2_with fail
  go_loopw [5, 11] (fun _ iv wr => ∃ i : Nat, i ≤ L.length ∧ iv = .int .i64 i ∧ MemAt wr (w.heap.size + 1) w.heap.size i (memOf (L.take i)) ∧ Nx w wr) (fun _ iv _ => L.length - (RowKit.intOf iv).toNat)
  case atStart =>
    refine ⟨0, Nat.zero_le _, rfl, ⟨?_, (MapAt.made w).nx ((Nx.refl _).alloc _)⟩, ((Nx.refl w).alloc _).alloc _⟩
    simp
  case round =>
    obtain ⟨i, hi, rfl, hm, hnx⟩ := hrel
    have HM := Lib.hid hm
    have HNX := Lib.hid hnx
    clear hm hnx
    by_cases hil : i < L.length
    · obtain ⟨⟨x, y⟩, hx⟩ : ∃ x, L[i]? = some x := ⟨_, List.getElem?_eq_getElem hil⟩
      obtain ⟨x0, x1, y0, y1⟩ := hL _ (List.mem_of_getElem? hx)
      obtain ⟨g, o, rfl, c0, c1⟩ := HC.out i _ hx
      dsimp only at x0 x1 y0 y1 c0 c1
      have c0 := HNX.out.cell c0
      have c1 := HNX.out.cell c1
      have g0 := block_lt c0
      have HE := Lib.hid (memOf_snoc L i _ hx)
      clear hx
      have C := Lib.hid (put_any (w.heap.size + 1) w.heap.size i (memOf (L.take i)) x y (by omega) x0 x1 y0 y1 (wr.alloc (Obj.cells #[Value.int IntKind.u32 x, Value.int IntKind.u8 y] 43)) (HM.out.nx ((Nx.refl _).alloc _)))
      go_wp2_with (go_at_call 39; refine C.out.mono ?_; rintro e w2 ⟨rfl, hm2, hg2⟩)
      go_roundw
      case rel =>
        refine ⟨_, hil, by first | rfl | go_num, by rw [HE.out]; exact hm2, Below.grown (HNX.out.alloc _) hg2 ?_ (fun j hj => by cases hj; exact Nat.le_refl _)⟩
        have := HNX.out.size
        simp
        omega
      case measure => simp [RowKit.intOf]; omega
    · obtain rfl : i = L.length := by omega
      go_wp2_with fail
      go_ret
      refine ⟨w.heap.size + 1, w.heap.size, rfl, by omega, by omega, ?_, HNX.out⟩
      have := HM.out
      rwa [List.take_length] at this

end Go.Proofs.YtndpgakjpokllaaGreat

/- package mem: Cells. -/
namespace Go.Proofs.YtndpgakjpokllaaGreat
open Go.RowKit Go.Maps
set_option linter.unusedVariables false
set_option linter.unusedSimpArgs false

/-- The cells of a memory, rising. -/
def CellsOf (M : Int → Int) (L : List (Int × Int)) : Prop := ∃ K, KeysOf M K ∧ L = K.map fun a => (a, M a)

/-- A cell's two values. -/
def cellC (x : Int × Int) : List Value := [.int .u32 x.1, .int .u8 x.2]

theorem cellC_len (L : List (Int × Int)) : (L.flatMap cellC).length = L.length * 2 := by
  induction L with
  | nil => rfl
  | cons a l ih => rw [List.flatMap_cons, List.length_append, ih]; simp [cellC]; omega

theorem cellC_at (L : List (Int × Int)) : ∀ (k : Nat) (x : Int × Int), L[k]? = some x → (L.flatMap cellC)[k * 2]? = some (.int .u32 x.1) ∧ (L.flatMap cellC)[k * 2 + 1]? = some (.int .u8 x.2) := by
  induction L with
  | nil => intro k x h; cases h
  | cons a l ih =>
    intro k x h
    rw [List.flatMap_cons]
    cases k with
    | zero =>
      simp at h
      subst h
      simp [cellC]
    | succ k =>
      rw [List.getElem?_cons_succ] at h
      obtain ⟨h1, h2⟩ := ih k x h
      have e1 : (k + 1) * 2 = k * 2 + (cellC a).length := by simp [cellC]; omega
      have e2 : (k + 1) * 2 + 1 = (k * 2 + 1) + (cellC a).length := by simp [cellC]; omega
      rw [e2, e1, List.getElem?_append_right (by omega), List.getElem?_append_right (by omega), Nat.add_sub_cancel, Nat.add_sub_cancel]
      exact ⟨h1, h2⟩

theorem cells_of_owns {w : World} {base : Nat} {v : Value} {L : List (Int × Int)} (h : OwnC w base 43 2 v L.length (L.flatMap cellC)) : CellsAt w v L := by
  rcases h.2 with ⟨rfl, h0⟩ | ⟨g, cap, cur, rfl, hb, hg, h1, h2, h3, h4⟩
  · exact .inl ⟨⟨_, rfl⟩, List.eq_nil_of_length_eq_zero h0⟩
  · refine .inr ⟨g, 0, cap, rfl, h1, h2, fun k x hx => ?_⟩
    obtain ⟨e1, e2⟩ := cellC_at L k x hx
    have cell : ∀ j u, (L.flatMap cellC)[j]? = some u → w.cell? ⟨g, j, none⟩ = some u := fun j u hu => by
      rw [cell_of_row w g j cur 43 (0, 0) hg]
      rw [← h4, List.getElem?_take] at hu
      split at hu
      · simpa using hu
      · cases hu
    rw [Nat.zero_add]
    exact ⟨cell _ _ e1, cell _ _ e2⟩

theorem WordsAt.nx {base : Nat} {w w' : World} {v : Value} {K : List Int} (h : WordsAt base w v K) (hn : Nx w w') : WordsAt base w' v K := by
  rcases h with h | ⟨g, cap, h1, h2, h3⟩
  · exact .inl h
  · exact .inr ⟨g, cap, h1, h2, h3.nx hn⟩

theorem WordsAt.form {base : Nat} {w : World} {v : Value} {K : List Int} (h : WordsAt base w v K) : ∃ A cap, v = .slice A K.length cap ∧ ∀ (j : Nat) (x : Int), K[j]? = some x → ∃ g, A = some ⟨g, 0, none⟩ ∧ w.cell? ⟨g, j, none⟩ = some (.int .u32 x) ∧ base ≤ g := by
  rcases h with ⟨rfl, rfl⟩ | ⟨g, cap, rfl, h2, h3⟩
  · exact ⟨none, 0, rfl, fun j x hx => by cases hx⟩
  · refine ⟨_, cap, rfl, fun j x hx => ⟨g, rfl, ?_, h2⟩⟩
    have hj : j < K.toArray.size := by
      have := (List.getElem?_eq_some_iff.1 hx).1
      simpa using this
    rw [(h3 j hj).1, show K.toArray[j]! = x by simp [hx]]

theorem infoCell : (Tryz.prog.info? 43).map (fun i => (i.zero, i.size, i.bytes)) = some (some (.agg #[.int .u32 0, .int .u8 0]), 2, 8) := by kernel_rfl

theorem nx_none {w w' : World} (h : w.grownBy w' none) : Nx w w' := Below.grown (Nx.refl w) h (Nat.le_refl _) (fun j hj => by cases hj)

theorem ownC_of_owns {w : World} {base : Nat} {e : TypeId} {size : Nat} {v : Value} {n : Nat} {xs : List Value} (h : w.ownsRow base e size v n xs) : OwnC w base e size v n xs := by
  refine ⟨h.1, ?_⟩
  rcases h.2 with hn | ⟨g, cap, cur, h1, h2, h3, h4, h5, h6, h7⟩
  · exact .inl hn
  · exact .inr ⟨g, cap, cur, h1, h2, h3, h4, h5, by omega, h7⟩

/-- The words that are gone through lie apart from the row that grows. -/
def Apart (K : List Int) (A : Option Addr) (tv : Value) (w : World) : Prop := ∀ (j : Nat) (x : Int), K[j]? = some x → ∃ g, A = some ⟨g, 0, none⟩ ∧ w.cell? ⟨g, j, none⟩ = some (.int .u32 x) ∧ tv.ownBlock ≠ some g

theorem Apart.step {K : List Int} {A : Option Addr} {v v' : Value} {w w2 w3 : World} (h : Apart K A v w) (hn : Nx w w2) (hg : w2.grownBy w3 v.ownBlock) (hv : v'.ownBlock = v.ownBlock ∨ v'.ownBlock = some w2.heap.size) : Apart K A v' w3 := fun j x hx => by
  obtain ⟨g, h1, h2, h3⟩ := h j x hx
  refine ⟨g, h1, hg.cell (hn.cell h2) (fun e => h3 e.symm), ?_⟩
  rcases hv with e | e
  · rw [e]; exact h3
  · rw [e]
    intro e2
    have := block_lt h2
    have := hn.size
    injection e2 with e2
    dsimp only at *
    omega

/-- What comes of Cells. -/
def RetCells (M : Int → Int) (w : World) (e : Ending) (w' : World) : Prop := ∃ v L, e = .returned v ∧ CellsOf M L ∧ L.length ≤ 100000 ∧ CellsAt w' v L ∧ Nx w w'

set_option maxHeartbeats 2000000 in
set_option maxRecDepth 100000 in
theorem cells_mem (pm b n : Nat) (M : Int → Int) (hn : n ≤ 100000) (w : World) (h : MemAt w pm b n M) : Calls Tryz.prog 22 #[.pointer (some ⟨pm, 0, none⟩)] w (RetCells M w) := by
  have hc := h.1
  have hl := block_lt hc
  have H := Lib.hid h
  obtain ⟨D, hD, hM⟩ := h.2
  have hsz := hD.size_le
  obtain ⟨i0, hi, hz0, hz1, hz2⟩ := info_parts infoCell
  clear h
  have hmax : (100000 : Nat) ≤ maxLen := by decide
  go_enter Tryz.func22, Tryz.ntmps22
  go_wp2_with (first
    | (at_len; refine wpList_len_own _ rfl _ 78 rfl 22 5 Tryz.underlying78 _ b n D rfl hD ?_)
    | (at_make; refine wpList_make_own _ rfl _ _ 24 rfl w.heap.size 43 i0 (.agg #[.int .u32 0, .int .u8 0]) 2 Tryz.underlying24 hi hz0 hz1 _ _ _ (Maps.size D) rfl rfl rfl (by rw [hz2]; omega) (by omega) (Nat.le_refl _) ?_; intro w1 hown1 hg1; have hn1 := nx_none hg1; have HO1 := Lib.hid hown1; have HN1 := Lib.hid hn1; have hc := hn1.cell hc; have hl := block_lt hc; clear hown1 hg1 hn1)
    | (go_at_call 42; refine (keys_any b _).mono ?_; rintro e w' ⟨rfl, rfl⟩)
    | (go_at_call 41; refine (((H.out.2.nx HN1.out).nx ((Nx.refl _).alloc _)).sorted hn w1.heap.size (by simp)).mono ?_; rintro e w2 ⟨v, K, rfl, hK, hKl, hW, hn2⟩; obtain ⟨A, cap, rfl, hW2⟩ := hW.form)
    | go_in)
  have HK := Lib.hid hK
  have HB2 := Lib.hid ((HN1.out.trans ((Nx.refl _).alloc _)).trans hn2)
  have HS := Lib.hid (show w.heap.size < w1.heap.size from (HO1.out.lt w.heap.size rfl).2)
  have hO2 : OwnC w2 w.heap.size 43 2 (.slice (some ⟨w.heap.size, 0, none⟩) 0 (Maps.size D)) 0 [] := by
    exact ((ownC_of_owns HO1.out).alloc _).nx hn2
  have HO2 := Lib.hid hO2
  have HA2 := Lib.hid (show Apart K A (.slice (some ⟨w.heap.size, 0, none⟩) 0 (Maps.size D)) w2 from fun j x hx => by
    obtain ⟨g, h1, h2, h3⟩ := hW2 j x hx
    refine ⟨g, h1, h2, fun e => ?_⟩
    have hs := HS.out
    simp [Value.ownBlock] at e h3
    omega)
  clear hK hn2 hO2 hW2
  go_loopw [3, 5, 19] (fun tv _ iv wr => ∃ i : Nat, i ≤ K.length ∧ iv = .int .i64 i ∧ OwnC wr w.heap.size 43 2 tv i (((K.map fun a => (a, M a)).take i).flatMap cellC) ∧ Apart K A tv wr ∧ Nx w wr) (fun _ _ iv _ => K.length - (RowKit.intOf iv).toNat)
  case atStart => exact ⟨0, Nat.zero_le _, rfl, HO2.out, HA2.out, HB2.out⟩
  case round =>
    obtain ⟨i, hiK, rfl, hO, hA, hnx⟩ := hrel
    have HO := Lib.hid hO
    have HA := Lib.hid hA
    have HNX := Lib.hid hnx
    clear hO hA hnx
    by_cases hil : i < K.length
    · obtain ⟨x, hx⟩ : ∃ x, K[i]? = some x := ⟨_, List.getElem?_eq_getElem hil⟩
      obtain ⟨g, rfl, c0, hne⟩ := HA.out i x hx
      obtain ⟨x0, x1⟩ := HK.out.2.2 x (List.mem_of_getElem? hx)
      have hc := HNX.out.cell H.out.1
      have g0 := block_lt c0
      have g1 := block_lt hc
      have HM := Lib.hid (H.out.2.nx HNX.out)
      have HE := Lib.hid (show ((K.map fun a => (a, M a)).take (i + 1)).flatMap cellC = ((K.map fun a => (a, M a)).take i).flatMap cellC ++ [.int .u32 x, .int .u8 (M x)] by
        rw [take_snoc' _ i (x, M x) (by simp [hx]), List.flatMap_append]
        rfl)
      clear hx hne
      go_wp2_with (first
        | (at_lookup; refine wp_lookup_map _ rfl _ _ rfl b n M rfl HM.out _ rfl x0 x1 ?_; intro c hc0 hc1 hc2; have HC0 := Lib.hid hc0; clear hc0)
        | (at_builtin; refine wpList_append_c _ rfl _ _ 24 rfl w.heap.size 43 i0 (.agg #[.int .u32 0, .int .u8 0]) 2 8 Tryz.underlying24 hi hz0 hz1 hz2 rfl (by decide) _ _ _ rfl (HO.out.alloc _) (some ⟨wr.heap.size, 0, none⟩) 1 1 [.int .u32 x, .int .u8 c] rfl rfl (Or.inr ⟨_, rfl, ?c1⟩) ?c2 ?c3 ?c4 ?c5 ?_)
        | go_in)
      case c2 => exact ⟨rfl, rfl⟩
      case c3 => have := hmax; omega
      case c4 => omega
      case c5 => have := HNX.out.size; omega
      intro v' w3 hO3 hg3 hv3
      have HO3 := Lib.hid (show OwnC w3 w.heap.size 43 2 v' (i + 1) (((K.map fun a => (a, M a)).take (i + 1)).flatMap cellC) by
        rw [HE.out, ← HC0.out]
        exact hO3)
      have HA3 := Lib.hid (HA.out.step ((Nx.refl wr).alloc (.cells #[.int .u32 x, .int .u8 c] 43)) hg3 (by simpa using hv3))
      have HN3 := Lib.hid (show Nx w w3 from Below.grown (HNX.out.alloc _) hg3 (by have := HNX.out.size; simp; omega) (fun j hj => (HO.out.lt j hj).1))
      clear hO3 hg3 hv3
      go_wp2_with fail
      go_roundw
      case rel => exact ⟨_, hil, by first | rfl | go_num, HO3.out, HA3.out, HN3.out⟩
      case measure => simp [RowKit.intOf]; omega
    · obtain rfl : i = K.length := by omega
      go_wp2_with fail
      go_ret
      have h1 := HO.out
      rw [List.take_of_length_le (by simp)] at h1
      refine ⟨_, _, rfl, ⟨K, HK.out, rfl⟩, by simpa using hKl, ?_, HNX.out⟩
      refine cells_of_owns (base := w.heap.size) ?_
      rw [List.length_map]
      exact h1

end Go.Proofs.YtndpgakjpokllaaGreat

