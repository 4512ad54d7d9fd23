/- Parts of the proof, one behind the other. -/
import Derived.Deep.RegionHeld3
import Derived.Deep.CutRange
import Derived.Deep.CutBlock
import Derived.Deep.DrawnRows
import Derived.Test.YtdgmdkkockbkjaaGreatDoorNan
import Derived.Test.YtdgmdkkockbkjaaGreatDoorQuiet
import Derived.Test.YtdgmdkkockbkjaaGreatDoorZkag
/- Contract of typecaseref12.Value, at the nodes of a text. -/
namespace Go.Proofs.YtdgmdkkockbkjaaGreatDoor
open Go.RowKit
set_option linter.unusedVariables false
set_option linter.unusedSimpArgs false
attribute [local go_sem ↓] Go.wp_at_zero Go.wp_at_succ

/-- Parts' cells. -/
def prtsC (ps : List (Int × Bool)) : List Value := ps.flatMap fun p => [.int .u32 p.1, .bool p.2]

theorem prtsC_len (ps : List (Int × Bool)) : (prtsC ps).length = ps.length * 2 := by
  induction ps with
  | nil => rfl
  | cons p ps ih => unfold prtsC at ih ⊢; rw [List.flatMap_cons, List.length_append, ih]; simp; omega

theorem prtsC_snoc (ps : List (Int × Bool)) (p : Int × Bool) : prtsC (ps ++ [p]) = prtsC ps ++ [.int .u32 p.1, .bool p.2] := by unfold prtsC; simp

theorem prtsC_at (ps : List (Int × Bool)) : ∀ (k : Nat) (p : Int × Bool), ps[k]? = some p → (prtsC ps)[k * 2]? = some (.int .u32 p.1) ∧ (prtsC ps)[k * 2 + 1]? = some (.bool p.2) := by
  induction ps with
  | nil => intro k q h; cases h
  | cons a ps ih =>
    intro k q hk
    cases k with
    | zero => simp at hk; subst hk; exact ⟨rfl, rfl⟩
    | succ k =>
      obtain ⟨h1, h2⟩ := ih k q hk
      unfold prtsC at h1 h2 ⊢
      rw [List.flatMap_cons, List.getElem?_append_right (by simp; omega), List.getElem?_append_right (by simp; omega)]
      refine ⟨?_, ?_⟩
      · rw [show (k + 1) * 2 - [Value.int .u32 a.1, Value.bool a.2].length = k * 2 by simp; omega]; exact h1
      · rw [show (k + 1) * 2 + 1 - [Value.int .u32 a.1, Value.bool a.2].length = k * 2 + 1 by simp; omega]; exact h2

theorem prtsC_take (ps : List (Int × Bool)) : ∀ k, prtsC (ps.take k) = (prtsC ps).take (k * 2) := by
  induction ps with
  | nil => intro k; simp [prtsC]
  | cons a ps ih =>
    intro k
    cases k with
    | zero => simp [prtsC]
    | succ k =>
      have := ih k
      unfold prtsC at this ⊢
      rw [List.take_succ_cons, List.flatMap_cons, List.flatMap_cons, this, show (k + 1) * 2 = k * 2 + 1 + 1 by omega]
      rfl

theorem prtsC_one (ps : List (Int × Bool)) : ∀ u ∈ prtsC ps, u.oneCell' = true := by
  intro u hu
  unfold prtsC at hu
  obtain ⟨p, _, h⟩ := List.mem_flatMap.1 hu
  simp at h
  rcases h with rfl | rfl <;> rfl

theorem own_cap {w : World} {base : Nat} {e : TypeId} {size : Nat} {A : Option Addr} {n c : Nat} {xs : List Value} (h : OwnC w base e size (.slice A n c) n xs) : n ≤ c := by
  rcases h.2 with ⟨hv, h0⟩ | ⟨g, cap, cur, hv, _, _, h1, _⟩
  · omega
  · injection hv with _ _ e3
    omega

theorem part_info : (Tryz.prog.info? 49).map (fun i => (i.zero, i.size, i.bytes)) = some (some (.agg #[.int .u32 0, .bool false]), 2, 8) := by kernel_rfl

/-- What comes of Value: a part, and no fault. -/
def RetVal (r : Int × Bool) (w : World) (e : Ending) (w' : World) : Prop := e = .returned (.tuple #[.agg #[.int .u32 r.1, .bool r.2], .agg #[.int .i64 0, .int .i64 0, .int .i64 0]]) ∧ Nx w w'

def va0 : Obj := .cells #[.int .u32 0, .bool false] 49

def va1 : Obj := .cells #[.int .i64 0, .int .i64 0, .int .i64 0] 29

/-- What holds at a round's head. -/
def ValRel (E : Bool) (p : Int) (r : Int × Bool) (ns : List Nod) (w wr : World) (lv iv : Value) : Prop :=
  ∃ (i : Nat) (ps : List (Int × Bool)), i ≤ ns.length ∧ ps.length ≤ i ∧ iv = .int .i64 i ∧ OwnC wr (w.heap.size + 1 + 1) 49 2 lv ps.length (prtsC ps) ∧ Has wr w.heap.size va0 ∧ Has wr (w.heap.size + 1) va1 ∧ Nx w wr ∧ VFut E p r (ns.drop i) ps

theorem src_own {w : World} {base : Nat} {e : TypeId} {size : Nat} {A : Option Addr} {n c : Nat} {xs : List Value} (h : OwnC w base e size (.slice A n c) n xs) (k : Nat) (hk : k ≤ n) :
    (A = none ∧ k = 0 ∧ c = 0) ∨ ∃ ad, A = some ad ∧ ∀ (j : Nat) (u : Value), (xs.take (k * size))[j]? = some u → w.cell? (ad.add j) = some u := by
  rcases h.2 with ⟨hv, h0⟩ | ⟨g, cap, cur, hv, hb, hg, h1, h2, h3, h4⟩
  · injection hv with e1 e2 e3
    exact Or.inl ⟨e1, by omega, e3⟩
  · injection hv with e1 e2 e3
    refine Or.inr ⟨_, e1, fun j u hu => ?_⟩
    rw [add_flat, Nat.zero_add]
    refine h.cells (g := g) (by rw [e1]; rfl) j u ?_
    rw [List.getElem?_take] at hu
    split at hu
    · exact hu
    · cases hu

theorem one12n (a p : Int) (E : Bool) (w : World) : Calls Tryz.prog 26 #[.int .i64 4, .agg #[.int .u32 a, .bool false], .int .u32 p, .bool E] w fun e w' => e = .returned (.tuple #[.agg #[.int .u32 ((0 - a) % 4294967296), .bool false], .int .i64 0]) ∧ Nx w w' := one12_neg a p E w

theorem two12p (a b : Int) (x : Bool) (w : World) : Calls Tryz.prog 27 #[.int .i64 9, .agg #[.int .u32 a, .bool x], .agg #[.int .u32 b, .bool false]] w fun e w' => e = .returned (.tuple #[.agg #[.int .u32 ((a + b) % 4294967296), .bool x], .int .i64 0]) ∧ Nx w w' := two12_plus a b x w

theorem two12m (a b : Int) (x : Bool) (w : World) : Calls Tryz.prog 27 #[.int .i64 10, .agg #[.int .u32 a, .bool x], .agg #[.int .u32 b, .bool false]] w fun e w' => e = .returned (.tuple #[.agg #[.int .u32 ((a - b) % 4294967296), .bool x], .int .i64 0]) ∧ Nx w w' := two12_minus a b x w

abbrev prtO (q : Int × Bool) : Obj := .cells #[.int .u32 q.1, .bool q.2] 49

theorem two_has {w : World} {H : Nat} {q : Int × Bool} (h : Has w H (prtO q)) (a : Int) (b : Bool) : Has ((w.setCell ⟨H, 0, none⟩ (.int .u32 a)).setCell ⟨H, 1, none⟩ (.bool b)) H (prtO (a, b)) := (h.put 0 _).put 1 _

theorem held_nx {W w' : World} {H : Nat} {a b : Value} (q0 : W.cell? ⟨H, 0, none⟩ = some a) (q1 : W.cell? ⟨H, 1, none⟩ = some b) (h : Nx W w') : w'.cell? ⟨H, 0, none⟩ = some a ∧ w'.cell? ⟨H, 1, none⟩ = some b ∧ Nx W w' := ⟨h.cell q0, h.cell q1, h⟩

theorem own_empty {W : World} {base G : Nat} {T : TypeId} (h : Has W G (.cells #[] T)) (hb : base ≤ G) : OwnC W base T 2 (.slice (some ⟨G, 0, none⟩) 0 0) 0 [] :=
  ⟨rfl, .inr ⟨G, 0, #[], rfl, hb, h, Nat.le_refl _, Nat.zero_le _, Nat.zero_le _, rfl⟩⟩

theorem row_ge {B G g : Nat} (h : B ≤ G) (hg : (Value.slice (some ⟨G, 0, none⟩) 0 0).ownBlock = some g) : B ≤ g := by
  have hg : some G = some g := hg
  injection hg with hg
  omega

theorem row_ge2 {B G H g : Nat} {v : Value} (h : B ≤ G) (hH : B ≤ H) (hb : v.ownBlock = (Value.slice (some ⟨G, 0, none⟩) 0 0).ownBlock ∨ v.ownBlock = some H) (hg : v.ownBlock = some g) : B ≤ g := by
  rcases hb with hb | hb
  · exact row_ge h (hb ▸ hg)
  · rw [hb] at hg
    injection hg with hg
    omega

theorem row_ne {G K : Nat} (h : G ≠ K) : (Value.slice (some ⟨G, 0, none⟩) 0 0).ownBlock = some K → False := by
  intro hg
  have hg : some G = some K := hg
  injection hg with hg
  exact h hg

theorem hasO1 (w : World) (o : Obj) : Has (w.alloc o).drew w.heap.size o := Has.nx (Has.new w o) ((Nx.refl _).drew)

theorem hasO2 (w : World) (o p : Obj) : Has ((w.alloc o).alloc p).drew w.heap.size o := Has.nx ((Has.new w o).alloc p) ((Nx.refl _).drew)

theorem hasO3 (w : World) (o p : Obj) : Has ((w.alloc p).alloc o).drew (w.heap.size + 1) o := Has.nx (Has.at_ _ _ (by simp)) ((Nx.refl _).drew)

theorem has_src {W : World} {G : Nat} {q : Int × Bool} (h : Has W G (prtO q)) : ((some ⟨G, 0, none⟩ : Option Addr) = none ∧ 1 = 0 ∧ 1 = 0) ∨ ∃ ad, (some ⟨G, 0, none⟩ : Option Addr) = some ad ∧ ∀ (j : Nat) (u : Value), [Value.int .u32 q.1, .bool q.2][j]? = some u → W.cell? (ad.add j) = some u := by
  refine Or.inr ⟨_, rfl, fun j u hu => ?_⟩
  rw [add_flat, Nat.zero_add]
  exact h.cell j u (by simpa using hu)

theorem one_src (q : Int × Bool) : ∀ u ∈ [Value.int .u32 q.1, .bool q.2], u.oneCell' = true := by
  intro u hu
  simp at hu
  rcases hu with rfl | rfl <;> rfl

/-- One more behind, from one's own row. -/
theorem nx_app {wc W w1 : World} {r : Option Nat} (h : Nx wc W) (hg : W.grownBy w1 r) (hr : ∀ g, r = some g → wc.heap.size ≤ g) : Nx wc w1 := Below.grown h hg h.size hr

set_option maxHeartbeats 16000000 in
set_option maxRecDepth 100000 in
theorem value_any (E : Bool) (p : Int) (r : Int × Bool) (v : Value) (ns : List Nod) (w : World) (hN : Nods w v ns) (hl : ns.length ≤ 1000) (hF : VFut E p r ns []) :
    Calls Tryz.prog 9 #[v, .slice none 0 0, .int .u32 p, .bool E] w (RetVal r w) := by
  obtain ⟨A, c, rfl, hc1, hc2, hA⟩ := hN.form
  have HN := Lib.hid hN
  have HA := Lib.hid hA
  have HF := Lib.hid hF
  clear hN hA hF
  unfold maxLen at hc2
  go_enter Tryz.func9, Tryz.ntmps9
  go_wp2
  go_loopw [10, 11] (fun lv iv wr => ValRel E p r ns w wr lv iv) (fun _ iv _ => ns.length + 1 - (intOf iv).toNat)
  case atStart => exact ⟨0, [], Nat.zero_le _, Nat.zero_le _, rfl, OwnC.nil _ _ _ _, (Has.new w va0).alloc _, by have := Has.new (w.alloc va0) va1; rwa [World.size_alloc] at this, ((Nx.refl w).alloc _).alloc _, by simpa using HF.out⟩
  case round =>
    obtain ⟨i, ps, hi1, hps, rfl, hown, hh0, hh1, hnx, hF⟩ := hrel
    have HNX := Lib.hid hnx
    have HO := Lib.hid hown
    have H0 := Lib.hid hh0
    have H1 := Lib.hid hh1
    have HFF := Lib.hid hF
    clear hnx hown hh0 hh1 hF
    by_cases hlt : i < ns.length
    · obtain ⟨n, hn⟩ : ∃ n, ns[i]? = some n := ⟨_, List.getElem?_eq_getElem hlt⟩
      obtain ⟨g, o, rfl, hNA⟩ : ∃ g o, A = some ⟨g, o, none⟩ ∧ NodAt w g o ns := by
        rcases HA.out with ⟨_, h, _⟩ | h
        · subst h; cases hn
        · exact h
      obtain ⟨a0, a1, a2, a3, a4⟩ := (show NodAt wr g o ns from fun k t hk j v hv => HNX.out.cell (hNA k t hk j v hv)).at_ i _ hn
      have hiI : (i : Int) < ns.length := by omega
      have zg := block_lt a0
      obtain ⟨Al, cl, hlv⟩ := HO.out.form
      subst hlv
      have hd : ns.drop i = n :: ns.drop (i + 1) := by
        rw [List.drop_eq_getElem_cons hlt]; congr 1
        rw [List.getElem?_eq_getElem hlt] at hn; injection hn
      have HD := Lib.hid hd
      obtain ⟨kd, ln, co, nm, nam⟩ := n
      dsimp only at a0 a1 a2 a3 a4
      clear hNA hn hd
      go_upto_block 2 with fail
      go_cut [14, 15] from 17 to 156 (fun cv kv wx => ∃ (k : Nat) (q : Int × Bool), k ≤ ps.length ∧ cv = .int .i64 0 ∧ kv = .int .i64 k ∧ Nx wr wx ∧ Has wx (wr.heap.size + 1) (prtO q) ∧ VFut E p r (ns.drop (i + 1)) (ps.take k ++ [q]))
      case first =>
        have hinv := HFF.out
        rw [HD.out] at hinv
        rcases hinv.inv with ⟨h, _⟩ | ⟨n, m, he, hk, hf⟩ | ⟨n, m, he, hk, hE, hf⟩ | ⟨n, m, a, he, hpp, hk, hf⟩ | ⟨n, m, a, b, x, he, hpp, hk, hf⟩ | ⟨n, m, a, b, x, he, hpp, hk, hf⟩
        · cases h
        · injection he with e1 e2
          subst e1 e2
          dsimp only at hk hf
          subst hk
          have HFN := Lib.hid hf
          clear hf hinv HD
          go_wp2
          go_meet
          case rel => exact ⟨ps.length, (nm, false), Nat.le_refl _, rfl, rfl, ((Nx.refl wr).alloc _).alloc _, Has.at_ _ _ (by simp), by rw [List.take_length]; exact HFN.out⟩
        · injection he with e1 e2
          subst e1 e2
          dsimp only at hk hf
          subst hk hE
          have HFN := Lib.hid hf
          clear hf hinv HD
          go_wp2
          go_meet
          case rel => exact ⟨ps.length, (p, true), Nat.le_refl _, rfl, rfl, ((Nx.refl wr).alloc _).alloc _, Has.at_ _ _ (by simp), by rw [List.take_length]; exact HFN.out⟩
        · injection he with e1 e2
          subst e1 e2
          dsimp only at hk hf
          subst hk hpp
          have HFN := Lib.hid hf
          clear hf hinv HD
          obtain ⟨gl, capl, hlv, hb1, hb2, hb3⟩ := HO.out.some (by simp)
          injection hlv with f1 f2 f3
          subst f1 f3
          unfold maxLen at hb3
          obtain ⟨c0, c1⟩ : wr.cell? ⟨gl, 0, none⟩ = some (.int .u32 a) ∧ wr.cell? ⟨gl, 1, none⟩ = some (.bool false) := ⟨HO.out.cells rfl 0 _ rfl, HO.out.cells rfl 1 _ rfl⟩
          have zl := block_lt c0
          clear f2
          have wz : IntKind.i64.wrap 0 = 0 := rfl
          go_wp2
          go_region_with (go_at_call 26; refine (one12n a p E _).mono ?_; rintro e w9 ⟨rfl, hn9⟩; have HB := Lib.hid (Has.nx (Has.at_ (g := wr.heap.size + 1) _ (prtO (0, false)) (by simp)) (Nx.trans ((Nx.refl _).drew) hn9)); have HN9 := Lib.hid (Nx.trans ((((Nx.refl wr).alloc _).alloc _).drew) hn9); clear hn9; have n0 := HB.out.cell 0 _ rfl; have n1 := HB.out.cell 1 _ rfl; have u0 := HB.out.free 0; have u1 := HB.out.free 1; have zn := HB.out.lt)
          all_goals
            go_wp2
            go_meet
            case rel => exact ⟨0, ((0 - a) % 4294967296, false), Nat.zero_le _, rfl, rfl, (HN9.out.setCell (Nat.le_succ _) _).setCell (Nat.le_succ _) _, by rw [Int.zero_sub]; exact two_has HB.out _ _, HFN.out⟩
        · injection he with e1 e2
          subst e1 e2
          dsimp only at hk hf
          subst hk hpp
          have HFN := Lib.hid hf
          clear hf hinv HD
          obtain ⟨gl, capl, hlv, hb1, hb2, hb3⟩ := HO.out.some (by simp)
          injection hlv with f1 f2 f3
          subst f1 f3
          unfold maxLen at hb3
          obtain ⟨c0, c1, c2, c3⟩ : wr.cell? ⟨gl, 0, none⟩ = some (.int .u32 a) ∧ wr.cell? ⟨gl, 1, none⟩ = some (.bool x) ∧ wr.cell? ⟨gl, 2, none⟩ = some (.int .u32 b) ∧ wr.cell? ⟨gl, 3, none⟩ = some (.bool false) := ⟨HO.out.cells rfl 0 _ rfl, HO.out.cells rfl 1 _ rfl, HO.out.cells rfl 2 _ rfl, HO.out.cells rfl 3 _ rfl⟩
          have zl := block_lt c0
          have wz : IntKind.i64.wrap 0 = 0 := rfl
          have wz1 : IntKind.i64.wrap 1 = 1 := rfl
          clear f2
          go_wp2
          go_region_with (go_at_call 27; refine (two12p a b x _).mono ?_; rintro e w9 ⟨rfl, hn9⟩; have HB := Lib.hid (Has.nx (Has.at_ (g := wr.heap.size + 1) _ (prtO (0, false)) (by simp)) (Nx.trans ((Nx.refl _).drew) hn9)); have HN9 := Lib.hid (Nx.trans ((((Nx.refl wr).alloc _).alloc _).drew) hn9); clear hn9; have n0 := HB.out.cell 0 _ rfl; have n1 := HB.out.cell 1 _ rfl; have u0 := HB.out.free 0; have u1 := HB.out.free 1; have zn := HB.out.lt)
          all_goals
            go_wp2
            go_meet
            case rel => exact ⟨0, ((a + b) % 4294967296, x), Nat.zero_le _, rfl, rfl, (HN9.out.setCell (Nat.le_succ _) _).setCell (Nat.le_succ _) _, two_has HB.out _ _, HFN.out⟩
        · injection he with e1 e2
          subst e1 e2
          dsimp only at hk hf
          subst hk hpp
          have HFN := Lib.hid hf
          clear hf hinv HD
          obtain ⟨gl, capl, hlv, hb1, hb2, hb3⟩ := HO.out.some (by simp)
          injection hlv with f1 f2 f3
          subst f1 f3
          unfold maxLen at hb3
          obtain ⟨c0, c1, c2, c3⟩ : wr.cell? ⟨gl, 0, none⟩ = some (.int .u32 a) ∧ wr.cell? ⟨gl, 1, none⟩ = some (.bool x) ∧ wr.cell? ⟨gl, 2, none⟩ = some (.int .u32 b) ∧ wr.cell? ⟨gl, 3, none⟩ = some (.bool false) := ⟨HO.out.cells rfl 0 _ rfl, HO.out.cells rfl 1 _ rfl, HO.out.cells rfl 2 _ rfl, HO.out.cells rfl 3 _ rfl⟩
          have zl := block_lt c0
          have wz : IntKind.i64.wrap 0 = 0 := rfl
          have wz1 : IntKind.i64.wrap 1 = 1 := rfl
          clear f2
          go_wp2
          go_region_with (go_at_call 27; refine (two12m a b x _).mono ?_; rintro e w9 ⟨rfl, hn9⟩; have HB := Lib.hid (Has.nx (Has.at_ (g := wr.heap.size + 1) _ (prtO (0, false)) (by simp)) (Nx.trans ((Nx.refl _).drew) hn9)); have HN9 := Lib.hid (Nx.trans ((((Nx.refl wr).alloc _).alloc _).drew) hn9); clear hn9; have n0 := HB.out.cell 0 _ rfl; have n1 := HB.out.cell 1 _ rfl; have u0 := HB.out.free 0; have u1 := HB.out.free 1; have zn := HB.out.lt)
          all_goals
            go_wp2
            go_meet
            case rel => exact ⟨0, ((a - b) % 4294967296, x), Nat.zero_le _, rfl, rfl, (HN9.out.setCell (Nat.le_succ _) _).setCell (Nat.le_succ _) _, two_has HB.out _ _, HFN.out⟩
      case rest =>
        obtain ⟨k, q, hk, rfl, rfl, hnx, hb, hf⟩ := hcut
        have HFN := Lib.hid hf
        have HX := Lib.hid hnx
        have HB := Lib.hid hb
        have HN2 := Lib.hid (HNX.out.trans hnx)
        have q0 := hb.cell 0 _ rfl
        have q1 := hb.cell 1 _ rfl
        have zq := hb.lt
        have HOX := Lib.hid (HO.out.nx hnx)
        have HL := Lib.hid (show ((prtsC ps).take (k * 2)).length = k * 2 by rw [List.length_take, prtsC_len]; omega)
        have H1C := Lib.hid (show ∀ u ∈ (prtsC ps).take (k * 2), u.oneCell' = true from fun u hu => prtsC_one ps u (List.mem_of_mem_take hu))
        obtain ⟨Al', hAl⟩ : ∃ Al', Al' = Al := ⟨_, rfl⟩
        have hkI : (k : Int) ≤ ps.length := by omega
        have hk0 : (0 : Int) ≤ k := by omega
        have hcl : (ps.length : Int) ≤ cl := by have := own_cap HOX.out; omega
        clear hf hnx hb HFF HA HD a0 a1 a2 a3 a4 hAl
        obtain ⟨i0, hi, hz0, hz1, hz2⟩ := info_parts part_info
        have HI := Lib.hid (And.intro hi (And.intro hz0 (And.intro hz1 hz2)))
        clear hi hz0 hz1 hz2
        obtain ⟨hi, hz0, hz1, hz2⟩ := HI.out
        have hbz : w.heap.size + 1 + 1 ≤ wc.heap.size := by have := H1.out.lt; have := HX.out.size; omega
        have hk1000 : k ≤ 1000 := by omega
        have hkc : (k : Int) ≤ cl := by omega
        go_wp2_with fail
        go_region_held3 (fun w' => w'.cell? ⟨wr.heap.size + 1, 0, none⟩ = some (.int .u32 q.1) ∧ w'.cell? ⟨wr.heap.size + 1, 1, none⟩ = some (.bool q.2) ∧ Nx wc w')
          ((refine held_nx q0 q1 ?_; repeat (with_reducible first | exact Nx.refl _ | exact hm2 | exact hm1 | refine Nx.drew ?_ | refine Nx.alloc ?_ _)))
          (first
            | ((have _t := hown1; refine step_append_c _ rfl _ _ 76 rfl (w.heap.size + 1 + 1) 49 i0 (.agg #[.int .u32 0, .bool false]) 2 8 Tryz.underlying76 hi hz0 hz1 hz2 rfl (by decide) (.slice A1 k c1) k _ (by rfl) (by first | exact hown1 | exact hown1.alloc _) (some ⟨_, 0, none⟩) 1 1 [.int .u32 q.1, .bool q.2] (by rfl) rfl (has_src (by with_reducible first | exact hasP | exact Has.new _ _)) (one_src q) (by unfold maxLen; omega) (by omega) (by have := hm1.size; first | omega | (simp; done) | (simp; omega)) ?_; intro v2 w2 hown2 hgr2 hbl2; have hm2 : Nx wc w2 := nx_app (by repeat (with_reducible first | exact Nx.refl _ | exact hm1 | refine Nx.drew ?_ | refine Nx.alloc ?_ _)) hgr2 hrow1))
            | ((have _t := hownz; refine step_append_c _ rfl _ _ 76 rfl (w.heap.size + 1 + 1) 49 i0 (.agg #[.int .u32 0, .bool false]) 2 8 Tryz.underlying76 hi hz0 hz1 hz2 rfl (by decide) (.slice A1 (0 + k) c1) (0 + k) _ (by rfl) (by first | exact hownz | exact hownz.alloc _) (some ⟨_, 0, none⟩) 1 1 [.int .u32 q.1, .bool q.2] (by rfl) rfl (has_src (by with_reducible first | exact hasP | exact Has.new _ _)) (one_src q) (by unfold maxLen; omega) (by omega) (by have := hm1.size; first | omega | (simp; done) | (simp; omega)) ?_; intro v2 w2 hown2 hgr2 hbl2; have hm2 : Nx wc w2 := nx_app (by repeat (with_reducible first | exact Nx.refl _ | exact hm1 | refine Nx.drew ?_ | refine Nx.alloc ?_ _)) hgr2 hrowz))
            | (((fail_if_success (have _t := hown1)); refine step_append_c _ rfl _ _ 76 rfl (w.heap.size + 1 + 1) 49 i0 (.agg #[.int .u32 0, .bool false]) 2 8 Tryz.underlying76 hi hz0 hz1 hz2 rfl (by decide) (.slice (some ⟨_, 0, none⟩) 0 0) 0 [] (by rfl) (own_empty (by with_reducible first | exact hasO1 _ _ | exact hasO2 _ _ _ | exact hasO3 _ _ _) (by first | omega | (simp; done) | (simp; omega))) Al k cl ((prtsC ps).take (k * 2)) (by rfl) HL.out (src_own (HOX.out.nx (by repeat (with_reducible first | exact Nx.refl _ | refine Nx.drew ?_ | refine Nx.alloc ?_ _))) k hk) H1C.out (by unfold maxLen; omega) (by omega) (by first | omega | (simp; done) | (simp; omega)) ?_; intro v1 w1 hown1 hgr1 hbl1; have hm1 : Nx wc w1 := nx_app (by repeat (with_reducible first | exact Nx.refl _ | refine Nx.drew ?_ | refine Nx.alloc ?_ _)) hgr1 (fun g hg => row_ge (by first | omega | (simp; done) | (simp; omega)) hg); obtain ⟨A1, c1, hv1⟩ := hown1.form; subst hv1; have hownz := hown1; have hblz := hbl1; have hrowz : ∀ g, (Value.slice A1 (0 + k) c1).ownBlock = some g → wc.heap.size ≤ g := fun g hg => row_ge2 (by first | omega | (simp; done) | (simp; omega)) (by first | omega | (simp; done) | (simp; omega)) hblz hg; simp only [Nat.zero_add, List.nil_append] at hown1 hbl1; have hrow1 : ∀ g, (Value.slice A1 k c1).ownBlock = some g → wc.heap.size ≤ g := fun g hg => row_ge2 (by first | omega | (simp; done) | (simp; omega)) (by first | omega | (simp; done) | (simp; omega)) hbl1 hg; first | (with_reducible have hasP : Has w1 (wc.heap.size + 1) (prtO q) := Has.keep_grown (hasO3 wc (prtO q) (.cells #[] 49)) hgr1 (row_ne (Nat.ne_of_lt (Nat.lt_succ_self _)))) | (with_reducible have hasP : Has w1 wc.heap.size (prtO q) := Has.keep_grown (hasO2 wc (prtO q) (.cells #[] 49)) hgr1 (row_ne (Nat.ne_of_gt (Nat.lt_succ_self _)))) | skip)))
        all_goals
          try simp only [Nat.zero_add, List.nil_append] at hown2
          have HW := Lib.hid hown2
          have HN3 := Lib.hid (HX.out.trans hm2)
          clear hown2 hgr2 hbl2 hm2 hown1 hgr1 hbl1 hm1 hrow1
          go_wp2
          go_roundw
          case rel => exact ⟨i + 1, ps.take k ++ [q], by omega, by simp; omega, by go_num, by rw [prtsC_snoc, prtsC_take, List.length_append, List.length_take, List.length_singleton, Nat.min_eq_left hk]; exact HW.out, H0.out.nx HN3.out, H1.out.nx HN3.out, HNX.out.trans HN3.out, HFN.out⟩
          case measure => simp [intOf]; omega
    · have hie : i = ns.length := by omega
      subst hie
      have hinv := HFF.out
      rw [List.drop_length] at hinv
      rcases hinv.inv with ⟨_, hpp⟩ | ⟨n, m, he, _⟩ | ⟨n, m, he, _⟩ | ⟨n, m, a, he, _⟩ | ⟨n, m, a, b, x, he, _⟩ | ⟨n, m, a, b, x, he, _⟩
      · subst hpp
        obtain ⟨gl, capl, hlv, hb1, hb2, hb3⟩ := HO.out.some (by simp)
        subst hlv
        unfold maxLen at hb3
        obtain ⟨c0, c1⟩ : wr.cell? ⟨gl, 0, none⟩ = some (.int .u32 r.1) ∧ wr.cell? ⟨gl, 1, none⟩ = some (.bool r.2) := ⟨HO.out.cells rfl 0 _ rfl, HO.out.cells rfl 1 _ rfl⟩
        have zl := block_lt c0
        have d0 := H0.out.cell 0 _ rfl
        have d1 := H0.out.cell 1 _ rfl
        have e0 := H0.out.free 0
        have e1 := H0.out.free 1
        have z0 := H0.out.lt
        have f0 := H1.out.cell 0 _ rfl
        have f1 := H1.out.cell 1 _ rfl
        have f2 := H1.out.cell 2 _ rfl
        have g0 := H1.out.free 0
        have g1 := H1.out.free 1
        have g2 := H1.out.free 2
        have z1 := H1.out.lt
        clear hinv HFF HA HF
        go_wp2
        refine bodyPost_ret (v := .tuple #[.agg #[.int .u32 r.1, .bool r.2], .agg #[.int .i64 0, .int .i64 0, .int .i64 0]]) (by simp [results, Tryz.results9, go_sem, c0, c1, d0, d1, e0, e1, f0, f1, f2, g0, g1, g2, z0, z1]) rfl ⟨rfl, ?_⟩
        repeat (with_reducible first | exact HNX.out | refine Nx.setCell ?_ (Nat.le_refl _) _ | refine Nx.setCell ?_ (Nat.le_succ _) _)
      all_goals cases he

end Go.Proofs.YtdgmdkkockbkjaaGreatDoor

/- Contracts of typecaseref16: mark, reg, ends. -/
namespace Go.Proofs.YtdgmdkkockbkjaaGreatDoor
open Go.RowKit
set_option linter.unusedVariables false
set_option linter.unusedSimpArgs false

/-- Is there that Mark? -/
def markB (l : List Tok) (i : Nat) (s : List UInt8) : Bool := match l[i]? with
  | some t => (t.kind == 7) && (t.text == s)
  | none => false

/-- The register whose name stands there; -1: there is none. -/
def regA (l : List Tok) (i : Nat) : Int := match l[i]? with
  | some t => if t.kind = 1 then (match regP t.text with | some n => (n : Int) | none => -1) else -1
  | none => -1

def endsB (l : List Tok) (i : Nat) : Bool := decide (l.length ≤ i) || markB l i [44]

/-- A Bool that is returned. -/
def RetB0 (b : Bool) (w : World) (e : Ending) (w' : World) : Prop := e = .returned (.bool b) ∧ Nx w w'

theorem mark_any (v : Value) (l : List Tok) (i : Nat) (s : List UInt8) (w : World) (hT : Toks w v l) (hl : l.length ≤ 100000) (hi : i ≤ 200000) : Calls Tryz.prog 23 #[v, .int .i64 i, .string (B s)] w (RetB0 (markB l i s) w) := by
  obtain ⟨A, c, rfl, hc1, hc2, hA⟩ := hT.form
  unfold maxLen at hc2
  by_cases hlt : i < l.length
  · obtain ⟨t, ht⟩ : ∃ t, l[i]? = some t := ⟨_, List.getElem?_eq_getElem hlt⟩
    have hm : markB l i s = ((t.kind == 7) && (t.text == s)) := by unfold markB; rw [ht]
    obtain ⟨g, o, rfl, hTA⟩ : ∃ g o, A = some ⟨g, o, none⟩ ∧ TokAt w g o l := by
      rcases hA with ⟨_, h, _⟩ | h
      · subst h; cases ht
      · exact h
    obtain ⟨a0, a1, a2, a3, a4, a5⟩ := hTA.at_ i t ht
    obtain ⟨kd, ln, cl, tx, nm, sc⟩ := t
    dsimp only at a0 a3 hm
    have HV := Lib.hid hm
    have hiI : (i : Int) < l.length := by omega
    clear hT hA hTA ht a1 a2 a4 a5 hm
    by_cases h7 : kd = 7
    · subst h7
      cases hx : tx == s
      all_goals
        have HX := Lib.hid hx
        go_enter Tryz.func23, Tryz.ntmps23
        go_wp2
        go_ret
        exact ⟨by rw [HV.out, HX.out]; rfl, Nx.refl _⟩
    · have b7 : (kd == 7) = false := by simpa using h7
      have HX := Lib.hid b7
      clear h7
      go_enter Tryz.func23, Tryz.ntmps23
      go_wp2
      go_ret
      exact ⟨by rw [HV.out, HX.out]; rfl, Nx.refl _⟩
  · have hm : markB l i s = false := by unfold markB; rw [List.getElem?_eq_none (by omega)]
    have HV := Lib.hid hm
    have d0 : decide ((i : Int) < l.length) = false := decide_eq_false (by omega)
    clear hT hA hm
    go_enter Tryz.func23, Tryz.ntmps23
    go_wp2
    go_ret
    exact ⟨by rw [HV.out]; rfl, Nx.refl _⟩

theorem ends_any (v : Value) (l : List Tok) (i : Nat) (w : World) (hT : Toks w v l) (hl : l.length ≤ 100000) (hi : i ≤ 200000) : Calls Tryz.prog 40 #[v, .int .i64 i] w (RetB0 (endsB l i) w) := by
  have HT := Lib.hid hT
  obtain ⟨A, c, rfl, hc1, hc2, hA⟩ := hT.form
  unfold maxLen at hc2
  clear hT hA
  by_cases hlt : i < l.length
  · have HV := Lib.hid (show endsB l i = markB l i [44] by unfold endsB; rw [decide_eq_false (by omega)]; rfl)
    have d0 : decide ((i : Int) ≥ l.length) = false := decide_eq_false (by omega)
    have CM := Lib.hid (mark_any _ l i [44] w HT.out hl hi)
    generalize markB l i [44] = b at *
    go_enter Tryz.func40, Tryz.ntmps40
    go_wp2_with fail
    with_reducible refine CM.out.mono ?_
    rintro e w2 ⟨rfl, hn2⟩
    have H2 := Lib.hid hn2
    clear hn2
    go_wp2
    go_ret
    exact ⟨by rw [HV.out]; show Ending.returned (Value.bool (decide (l.length ≤ i) || b)) = _; rw [decide_eq_false (by omega)]; rfl, H2.out⟩
  · have HV := Lib.hid (show endsB l i = true by unfold endsB; rw [decide_eq_true (by omega)]; rfl)
    have d0 : decide ((i : Int) ≥ l.length) = true := decide_eq_true (by omega)
    go_enter Tryz.func40, Tryz.ntmps40
    go_wp2
    go_ret
    exact ⟨by rw [HV.out]; show Ending.returned (Value.bool _) = _; first | rfl | (rw [decide_eq_true (by omega)]; rfl), Nx.refl _⟩

/-- A number that is returned. -/
def RetI0 (n : Int) (w : World) (e : Ending) (w' : World) : Prop := e = .returned (.int .i64 n) ∧ Nx w w'

theorem reg16_any (v : Value) (l : List Tok) (i : Nat) (w : World) (hT : Toks w v l) (hl : l.length ≤ 100000) (hi : i ≤ 200000) : Calls Tryz.prog 19 #[v, .int .i64 i] w (RetI0 (regA l i) w) := by
  obtain ⟨A, c, rfl, hc1, hc2, hA⟩ := hT.form
  unfold maxLen at hc2
  by_cases hlt : i < l.length
  · obtain ⟨t, ht⟩ : ∃ t, l[i]? = some t := ⟨_, List.getElem?_eq_getElem hlt⟩
    have hm : regA l i = if t.kind = 1 then (match regP t.text with | some n => (n : Int) | none => -1) else -1 := by unfold regA; rw [ht]
    obtain ⟨g, o, rfl, hTA⟩ : ∃ g o, A = some ⟨g, o, none⟩ ∧ TokAt w g o l := by
      rcases hA with ⟨_, h, _⟩ | h
      · subst h; cases ht
      · exact h
    obtain ⟨a0, a1, a2, a3, a4, a5⟩ := hTA.at_ i t ht
    obtain ⟨kd, ln, cl, tx, nm, sc⟩ := t
    dsimp only at a0 a3 hm
    have hiI : (i : Int) < l.length := by omega
    have d0 : decide ((i : Int) ≥ l.length) = false := decide_eq_false (by omega)
    clear hT hA hTA ht a1 a2 a4 a5
    by_cases h1 : kd = 1
    · subst h1
      rw [if_pos rfl] at hm
      have CR := Lib.hid (rreg2_any tx w)
      unfold RetRegN at CR
      cases hr : regP tx with
      | none =>
        rw [hr] at hm CR
        have HV := Lib.hid hm
        clear hm hr
        go_enter Tryz.func19, Tryz.ntmps19
        go_wp2_with fail
        with_reducible refine CR.out.mono ?_
        rintro e w2 ⟨rfl, hn2⟩
        have H2 := Lib.hid hn2
        clear hn2
        go_wp2
        go_ret
        exact ⟨by rw [HV.out]; rfl, H2.out⟩
      | some n =>
        rw [hr] at hm CR
        have HV := Lib.hid hm
        clear hm hr
        go_enter Tryz.func19, Tryz.ntmps19
        go_wp2_with fail
        with_reducible refine CR.out.mono ?_
        rintro e w2 ⟨rfl, hn2⟩
        have H2 := Lib.hid hn2
        clear hn2
        go_wp2
        go_ret
        exact ⟨by rw [HV.out]; rfl, H2.out⟩
    · rw [if_neg h1] at hm
      have HV := Lib.hid hm
      have b1 : (kd != 1) = true := by simpa using h1
      clear h1 hm
      go_enter Tryz.func19, Tryz.ntmps19
      go_wp2
      go_ret
      exact ⟨by rw [HV.out]; rfl, Nx.refl _⟩
  · have hm : regA l i = -1 := by unfold regA; rw [List.getElem?_eq_none (by omega)]
    have HV := Lib.hid hm
    have d0 : decide ((i : Int) ≥ l.length) = true := decide_eq_true (by omega)
    clear hT hA hm
    go_enter Tryz.func19, Tryz.ntmps19
    go_wp2
    go_ret
    exact ⟨by rw [HV.out]; rfl, Nx.refl _⟩

end Go.Proofs.YtdgmdkkockbkjaaGreatDoor

/- A region that draws its order: reads, and one operation that makes memory beside them; then the others in their one order. One walk in the order of the text serves every order. -/
namespace Go.Proofs.YtdgmdkkockbkjaaGreatDoor
open Go.RowKit
set_option linter.unusedVariables false

section
variable {P : Program} {ops : Array Oper} {md : Region.Mode}

/-- No world: what a read may not leave. -/
def noW : World → Prop := fun _ => False

/-- In each of two worlds operation o reads v. -/
def YieldsM (P : Program) (ops : Array Oper) (w0 w1 : World) (o : Oper) (v : Value) (a : Act) : Prop :=
  (Region.wanted o (yielded ops a.tmps) = true ∧ o.quietAt P a noW w0 v ∧ o.quietAt P a noW w1 v) ∨ (Region.wanted o (yielded ops a.tmps) = false ∧ v = undef)

/-- The operations, each a read in all worlds of C. -/
def wpRd (P : Program) (ops : Array Oper) (C : World → Prop) (Q : Act → Prop) : List Oper → Act → Prop
  | [], a => Q a
  | o :: rest, a => if Region.wanted o (yielded ops a.tmps) then ∃ v, (∀ w, C w → o.quietAt P a noW w v) ∧ wpRd P ops C Q rest (a.put o.dst v) else wpRd P ops C Q rest (a.put o.dst undef)

theorem wpRd_nil {C : World → Prop} {Q : Act → Prop} {a : Act} (h : Q a) : wpRd P ops C Q [] a := h

theorem wpRd_step {C : World → Prop} {Q : Act → Prop} {a : Act} {o : Oper} {rest : List Oper}
    (h : ∀ K : Act → Prop, (∀ a, wpRd P ops C Q rest a → K a) → if Region.wanted o (yielded ops a.tmps) then ∃ v, (∀ w, C w → o.quietAt P a noW w v) ∧ K (a.put o.dst v) else K (a.put o.dst undef)) : wpRd P ops C Q (o :: rest) a :=
  h _ fun _ h => h

/-- Operation i, from the world W to the world W'. -/
def opM (P : Program) (ops : Array Oper) (m : Nat) (w1 : World) (i : Nat) (K : Act → Prop) (a : Act) (W : World) : Prop :=
  match ops[i]? with
  | none => i ≠ m ∧ K a
  | some o => if i = m then Region.wanted o (yielded ops a.tmps) = true ∧ ∃ v, (execOp a.eval o).run P W = .ok (.value v) w1 ∧ K (a.put o.dst v)
    else if Region.wanted o (yielded ops a.tmps) then ∃ v, o.quietAt P a noW W v ∧ K (a.put o.dst v) else K (a.put o.dst undef)

theorem opM_mono {m : Nat} {w1 : World} {i : Nat} {K K' : Act → Prop} {a : Act} {W : World} (h : ∀ a, K a → K' a) (hh : opM P ops m w1 i K a W) : opM P ops m w1 i K' a W := by
  unfold opM at *
  split
  · rename_i ho; simp only [ho] at hh; exact ⟨hh.1, h _ hh.2⟩
  · rename_i o ho
    simp only [ho] at hh
    split
    · rename_i hm
      rw [if_pos hm] at hh
      obtain ⟨h1, v, h2, h3⟩ := hh
      exact ⟨h1, v, h2, h _ h3⟩
    · rename_i hm
      rw [if_neg hm] at hh
      split
      · rename_i hw
        rw [if_pos hw] at hh
        obtain ⟨v, h2, h3⟩ := hh
        exact ⟨v, h2, h _ h3⟩
      · rename_i hw
        rw [if_neg hw] at hh
        exact h _ hh

theorem quiet_no {o : Oper} {a : Act} {W : World} {v : Value} {K : Act → Prop} {K' : Act → World → Prop} {Q' : Exit → Act → World → Prop} (hq : o.quietAt P a noW W v) (hK : K (a.put o.dst v)) (h : ∀ a', K a' → K' a' W) : o.wp P a W K' Q' := by
  refine Oper.wp_of_quiet (C := fun w' => w' = W) (K := K) rfl (fun a' w' hw' hk => by subst hw'; exact h _ hk) ⟨v, fun w hw => ?_, hK⟩
  subst hw
  unfold Oper.quietAt at hq ⊢
  generalize (execOp a.eval o).run P w = r at hq ⊢
  cases r with
  | ok n w' =>
    cases n with
    | value u => exact hq
    | skip => exact hq
    | enter f args =>
      obtain ⟨e1, hc⟩ := hq
      exact ⟨e1, hc.mono fun e w'' ⟨he, hw''⟩ => hw''.elim⟩
    | _ => exact hq
  | halt x w' => exact hq

theorem wpOp_of_opM {m : Nat} {w1 : World} {i : Nat} {a : Act} {W W' : World} {K : Act → Prop} {K' : Act → World → Prop} {Q' : Exit → Act → World → Prop} (hW : W' = if i = m then w1 else W) (h : ∀ a', K a' → K' a' W') (hh : opM P ops m w1 i K a W) : wpOp P ops Q' i K' a W := by
  unfold opM at hh
  unfold wpOp
  split
  · rename_i ho
    simp only [ho] at hh
    rw [if_neg hh.1] at hW
    subst hW
    exact h _ hh.2
  · rename_i o ho
    simp only [ho] at hh
    by_cases hm : i = m
    · rw [if_pos hm] at hh hW
      obtain ⟨h1, v, h2, h3⟩ := hh
      subst hW
      rw [if_pos h1]
      refine .inl ?_
      unfold Oper.wp
      rw [h2]
      exact h _ h3
    · rw [if_neg hm] at hh hW
      subst hW
      split
      · rename_i hw
        rw [if_pos hw] at hh
        obtain ⟨v, h2, h3⟩ := hh
        exact .inl (quiet_no h2 h3 h)
      · rename_i hw
        rw [if_neg hw] at hh
        exact h _ hh

/-- The world, by whether the maker is listed. -/
def wldM (m : Nat) (w0 w1 : World) (listed : Array Bool) : World := if listed.getD m false = true then w1 else w0

/-- The head of the region, in whatever order. -/
def anyM (P : Program) (md : Region.Mode) (ops : Array Oper) (m : Nat) (w0 w1 : World) (L : Array Bool → Act → Prop) : Nat → Array Bool → Act → Prop
  | 0, listed, a => L listed a
  | f + 1, listed, a => Region.ready md ops listed ≠ [] ∧ ∀ i ∈ Region.ready md ops listed, i < m + 1 ∧ opM P ops m w1 i (anyM P md ops m w0 w1 L f (listed.setIfInBounds i true)) a (wldM m w0 w1 listed)

theorem wldM_set {m i : Nat} {w0 w1 : World} {listed : Array Bool} (hm : m < listed.size) : wldM m w0 w1 (listed.setIfInBounds i true) = if i = m then w1 else wldM m w0 w1 listed := by
  unfold wldM
  by_cases h : i = m
  · subst h
    rw [if_pos rfl, if_pos (by simp [hm])]
  · rw [if_neg h, getD_set_ne false h]

theorem any_of_headM {m g : Nat} {w0 w1 : World} {L : Array Bool → Act → Prop} {Q' : Exit → Act → World → Prop} (hm : m < ops.size) (hL : ∀ listed a, listed.size = ops.size → L listed a → wpAny P md ops Q' g listed a (wldM m w0 w1 listed)) :
    ∀ (f : Nat) (listed : Array Bool) (a : Act), listed.size = ops.size → anyM P md ops m w0 w1 L f listed a → wpAny P md ops Q' (f + g) listed a (wldM m w0 w1 listed) := by
  intro f
  induction f with
  | zero => intro listed a hs h; rw [Nat.zero_add]; exact hL _ _ hs h
  | succ f ih =>
    intro listed a hs h
    rw [show f + 1 + g = (f + g) + 1 by omega]
    exact ⟨fun h0 => absurd h0 h.1, fun i hi => wpOp_of_opM (wldM_set (by omega)) (fun a' h' => ih _ a' (by simp [hs]) h') (h.2 i hi).2⟩

theorem YieldsM.of_same {w0 w1 : World} {o : Oper} {v : Value} {a a' : Act} (hy : YieldsM P ops w0 w1 o v a) (he : execOp a'.eval o = execOp a.eval o)
    (hw : Region.wanted o (yielded ops a'.tmps) = Region.wanted o (yielded ops a.tmps)) : YieldsM P ops w0 w1 o v a' := by
  unfold YieldsM Oper.quietAt at *
  rw [he, hw]
  exact hy

theorem YieldsM.opM {m i : Nat} {w0 w1 W : World} {o : Oper} {v : Value} {a : Act} (hi : ops[i]? = some o) (him : i ≠ m) (hW : W = w0 ∨ W = w1) (hy : YieldsM P ops w0 w1 o v a) {K : Act → Prop} (h : K (a.put o.dst v)) : opM P ops m w1 i K a W := by
  unfold Go.Proofs.YtdgmdkkockbkjaaGreatDoor.opM
  simp only [hi]
  rw [if_neg him]
  rcases hy with ⟨hw, h0, h1⟩ | ⟨hw, rfl⟩
  · rw [if_pos hw]
    rcases hW with rfl | rfl
    · exact ⟨v, h0, h⟩
    · exact ⟨v, h1, h⟩
  · rw [if_neg (by rw [hw]; simp)]
    exact h

theorem opM_put {m j : Nat} {w0 w1 W : World} {oi oj : Oper} {v : Value} (hj : ops[j]? = some oj) (hap : oi.apart ops oj = true)
    (hsi : ∀ cs b, oi.op ≠ .select cs b) (hsj : ∀ cs b, oj.op ≠ .select cs b) {K : Act → Prop} {a : Act}
    (hy : YieldsM P ops w0 w1 oi v a) (h : opM P ops m w1 j K (a.put oi.dst v) W) :
    opM P ops m w1 j (fun a' => YieldsM P ops w0 w1 oi v a' ∧ K (a'.put oi.dst v)) a W := by
  obtain ⟨h1, h2, h3⟩ := Oper.apart_spec hap
  have keep : ∀ u, YieldsM P ops w0 w1 oi v (a.put oj.dst u) := fun u => hy.of_same (execOp_put oi hsi a oj.dst u h3) (wanted_put oi a oj.dst u h3)
  unfold opM at *
  simp only [hj] at *
  rw [wanted_put oj a oi.dst v h1] at h
  by_cases hjm : j = m
  · rw [if_pos hjm] at h ⊢
    obtain ⟨hw, u, hu, hn⟩ := h
    rw [execOp_put oj hsj a oi.dst v h1] at hu
    exact ⟨hw, u, hu, keep u, by rw [← Act.put_comm a v u h2]; exact hn⟩
  · rw [if_neg hjm] at h ⊢
    split
    · rename_i hw
      rw [if_pos hw] at h
      obtain ⟨u, hu, hn⟩ := h
      refine ⟨u, ?_, keep u, by rw [← Act.put_comm a v u h2]; exact hn⟩
      unfold Oper.quietAt at *
      rwa [execOp_put oj hsj a oi.dst v h1] at hu
    · rename_i hw
      rw [if_neg hw] at h
      exact ⟨keep _, by rw [← Act.put_comm a v undef h2]; exact h⟩

theorem anyM_first {m i : Nat} {w0 w1 : World} {oi : Oper} {v : Value} {L : Array Bool → Act → Prop} (hi : ops[i]? = some oi) (hsel : ∀ (j : Nat) (o : Oper) cs b, ops[j]? = some o → o.op ≠ .select cs b)
    (hs : Region.sinkB md ops (m + 1) = true) (hc : Region.chainB md ops (m + 1) = true) (hn : m + 1 < ops.size) (him : i < m)
    (hdone : ∀ listed a, L listed a → ∀ j ∈ Region.ready md ops listed, m + 1 ≤ j) :
    ∀ (f : Nat) (listed : Array Bool) (a : Act), HeadInv md ops (m + 1) listed →
      (∀ j oj, ops[j]? = some oj → j ≠ i → listed.getD j true = false → (∀ e ∈ oj.after, Region.binds md e = true → e.on ≠ i) → oi.apart ops oj = true) →
      i ∈ Region.ready md ops listed → YieldsM P ops w0 w1 oi v a →
      anyM P md ops m w0 w1 L f (listed.setIfInBounds i true) (a.put oi.dst v) → anyM P md ops m w0 w1 L (f + 1) listed a := by
  have two : ∀ listed, wldM m w0 w1 listed = w0 ∨ wldM m w0 w1 listed = w1 := fun listed => by unfold wldM; split <;> simp
  intro f
  induction f with
  | zero =>
    intro listed a inv _ hr hy H
    have hun := (mem_ready.1 hr).1
    refine ⟨fun h => (by rw [h] at hr; cases hr), fun j hj => ?_⟩
    have hjn : j < m + 1 := Nat.lt_of_not_le fun h => tail_waits hs hc hn inv _ i rfl (by omega) hun j h hj
    refine ⟨hjn, ?_⟩
    by_cases hji : j = i
    · subst hji; exact hy.opM hi (by omega) (two _) H
    · have := hdone _ _ H j (ready_mono hj hji); omega
  | succ f ih =>
    intro listed a inv hfree hr hy H
    have hun := (mem_ready.1 hr).1
    refine ⟨fun h => (by rw [h] at hr; cases hr), fun j hj => ?_⟩
    have hjn : j < m + 1 := Nat.lt_of_not_le fun h => tail_waits hs hc hn inv _ i rfl (by omega) hun j h hj
    refine ⟨hjn, ?_⟩
    by_cases hji : j = i
    · subst hji; exact hy.opM hi (by omega) (two _) H
    · have h1 := (H.2 j (ready_mono hj hji)).2
      rw [wldM_set (by rw [inv.size]; omega), if_neg (by omega)] at h1
      obtain ⟨hjun, oj, hoj, hall⟩ := mem_ready.1 hj
      have hnot : ∀ e ∈ oj.after, Region.binds md e = true → e.on ≠ i := fun e he hb heq => by
        have h2 := hall e he hb
        rw [heq, getD_both hun] at h2
        cases h2
      have h2 := opM_put hoj (hfree j oj hoj hji hjun hnot) (fun cs b => hsel i oi cs b hi) (fun cs b => hsel j oj cs b hoj) hy h1
      refine opM_mono (fun a' h3 => ih (listed.setIfInBounds j true) a' (inv.set hj hjn) (fun k ok hk hki hk1 hno => hfree k ok hk hki ?_ hno) (ready_mono hr (Ne.symm hji)) h3.1 ?_) h2
      · by_cases hjk : j = k
        · subst hjk; exact hjun
        · rw [getD_set_ne true hjk] at hk1; exact hk1
      · rw [Array.setIfInBounds_comm _ _ hji]; exact h3.2

/-- The maker, behind all reads. -/
def MakesM (P : Program) (ops : Array Oper) (m : Nat) (w0 w1 : World) (Lq : Act → Prop) (a : Act) : Prop :=
  ∃ o v, ops[m]? = some o ∧ Region.wanted o (yielded ops a.tmps) = true ∧ (execOp a.eval o).run P w0 = .ok (.value v) w1 ∧ Lq (a.put o.dst v)

theorem anyM_lex {m g : Nat} {w0 w1 : World} {C : World → Prop} (hC0 : C w0) (hC1 : C w1) {Lq : Act → Prop} (hsel : Region.noSelect ops = true) (hs : Region.sinkB md ops (m + 1) = true) (hc : Region.chainB md ops (m + 1) = true) (hn : m + 1 < ops.size) :
    ∀ (l : List Oper) (k : Nat) (listed : Array Bool) (a : Act), (∀ j, j < l.length → l[j]? = ops[k + j]?) → k + l.length = m → HeadInv md ops (m + 1) listed →
    (∀ j, j < k → listed.getD j false = true) → listed.getD m false = false →
    Region.lexHead md ops g (l.length + 1) k listed = true → wpRd P ops C (MakesM P ops m w0 w1 Lq) l a →
    anyM P md ops m w0 w1 (fun listed' a' => listed'.getD m false = true ∧ Region.seqB md ops g (m + 1) listed' = true ∧ Lq a') (l.length + 1) listed a := by
  intro l
  induction l with
  | nil =>
    intro k listed a _ hk inv hall hmn hB h
    have e : k = m := by simpa using hk
    subst e
    simp only [List.length_nil, Region.lexHead, Bool.and_eq_true] at hB
    obtain ⟨⟨hr, hf⟩, hB'⟩ := hB
    have hr' : k ∈ Region.ready md ops listed := by simpa using hr
    have hun := (mem_ready.1 hr').1
    refine ⟨fun h => (by rw [h] at hr'; cases hr'), fun j hj => ?_⟩
    have hjn : j < k + 1 := Nat.lt_of_not_le fun h => tail_waits hs hc hn inv _ k rfl (by omega) hun j h hj
    refine ⟨hjn, ?_⟩
    have hjk : j = k := by
      rcases Nat.lt_or_ge j k with h1 | h1
      · have h2 := (mem_ready.1 hj).1
        have h3 := hall j h1
        rw [getD_both h2] at h3
        cases h3
      · omega
    subst hjk
    obtain ⟨o, v, ho, hw, hrun, hL⟩ := h
    unfold opM
    simp only [ho, if_true]
    refine ⟨hw, v, ?_, ?_⟩
    · unfold wldM
      rw [hmn]
      exact hrun
    · exact ⟨by simp [inv.size, show j < ops.size by omega], hB', hL⟩
  | cons o l ih =>
    intro k listed a hl hk inv hall hmn hB h
    have h0 : ops[k]? = some o := by simpa using (hl 0 (by simp)).symm
    simp only [List.length_cons] at hB hk ⊢
    rw [Region.lexHead, Bool.and_eq_true, Bool.and_eq_true] at hB
    obtain ⟨⟨hr, hf⟩, hB'⟩ := hB
    have hkm : k < m := by omega
    have hr' : k ∈ Region.ready md ops listed := by simpa using hr
    have step : ∃ v, YieldsM P ops w0 w1 o v a ∧ wpRd P ops C (MakesM P ops m w0 w1 Lq) l (a.put o.dst v) := by
      rw [wpRd] at h
      split at h
      · rename_i hw
        obtain ⟨v, h1, h2⟩ := h
        exact ⟨v, Or.inl ⟨hw, h1 _ hC0, h1 _ hC1⟩, h2⟩
      · rename_i hw
        exact ⟨undef, Or.inr ⟨by simpa using hw, rfl⟩, h⟩
    obtain ⟨v, hy, hK⟩ := step
    refine anyM_first h0 (Region.noSelect_spec hsel) hs hc hn hkm (fun listed' a' hL => seqB_ready hL.2.1) (l.length + 1) listed a inv (Region.free_spec h0 hf) hr' hy
      (ih (k + 1) _ _ (fun j hj => by have := hl (j + 1) (by simp; omega); simpa [Nat.add_assoc, Nat.add_comm 1 j] using this) (by omega) (inv.set hr' (by omega)) (fun j hj => ?_) (by rw [getD_set_ne false (by omega)]; exact hmn) hB' hK)
    by_cases hjk : k = j
    · subst hjk; simp [inv.size, show k < ops.size by omega]
    · rw [getD_set_ne false hjk]; exact hall j (by omega)

/-- The region: m reads in worlds of C, then the maker, from the world w.drew to w1; the others in their one order. -/
theorem wp_region_mk {id : Nat} {Q : Exit → Act → World → Prop} {a : Act} {w : World} {l : List Oper} (m : Nat) (C : World → Prop) (w1 : World) (hm : P.follows .mixedOrders = true) (hB : Region.lexTailB .any l.toArray (m + 1) = true)
    (hC0 : C w.drew) (hC1 : C w1) (h : wpRd P l.toArray C (MakesM P l.toArray m w.drew w1 fun a' => wpList P l.toArray Q (l.drop (m + 1)) a' w1) (l.take m) a) : (Code.region id l.toArray true).wp P Q a w := by
  simp only [Region.lexTailB, Bool.and_eq_true, decide_eq_true_eq] at hB
  obtain ⟨⟨⟨⟨hsel, hn⟩, hs⟩, hc⟩, hlex⟩ := hB
  have hn' : m + 1 < l.length := by simpa using hn
  have htl : (l.take m).length = m := by simp; omega
  have hdl : (l.drop (m + 1)).length = l.toArray.size - (m + 1) := by simp
  have inv0 : HeadInv .any l.toArray (m + 1) (Array.replicate l.toArray.size false) :=
    ⟨by simp, fun j oj _ hl => (by rw [getD_replicate_false] at hl; cases hl), fun t _ ht => getD_in (by simpa using ht) (getD_replicate_false _ _)⟩
  have H := anyM_lex (md := .any) (g := l.toArray.size - (m + 1)) hC0 hC1 hsel hs hc hn (l.take m) 0 _ a (fun j hj => by
    have hj' : j < m := by rw [htl] at hj; exact hj
    simp [hj']) (by simpa using htl) inv0 (fun j hj => by omega) (getD_replicate_false _ _) (by rw [htl]; exact hlex) h
  refine wp_region_any hm ?_
  have := any_of_headM (Q' := Q) (g := l.toArray.size - (m + 1)) (by omega) (fun listed a' hsz hL => by
    have := wpAny_of_seq (md := .any) (Q' := Q) (l.drop (m + 1)) (m + 1) listed a' w1 (fun j => by simp [List.getElem?_drop]) (by rw [hdl]; exact hL.2.1) hL.2.2
    unfold wldM
    rw [if_pos hL.1]
    rwa [hdl] at this) _ _ _ (by simp) H
  rw [htl, show m + 1 + (l.toArray.size - (m + 1)) = l.toArray.size by omega] at this
  unfold wldM at this
  rw [getD_replicate_false] at this
  exact this

end

end Go.Proofs.YtdgmdkkockbkjaaGreatDoor

