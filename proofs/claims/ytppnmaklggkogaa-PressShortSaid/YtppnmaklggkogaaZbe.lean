/- Parts of the proof, one behind the other. -/
import Derived.OwnWalk
import Derived.Test.YtppnmaklggkogaaZaf
import Derived.Test.YtppnmaklggkogaaZag
import Derived.Test.YtppnmaklggkogaaZak
import Derived.Test.YtppnmaklggkogaaZav
import Derived.Test.YtppnmaklggkogaaZax
import Derived.Test.YtppnmaklggkogaaZbc
import Derived.Test.YtppnmaklggkogaaZbd
/- Contracts of package press: Names. -/
namespace Go.Proofs.Ytppnmaklggkogaa
open Go.RowKit
set_option linter.unusedVariables false
set_option linter.unusedSimpArgs false

theorem str_info : (Try.prog.info? 9).map (fun i => (i.zero, i.size, i.bytes)) = some (some (.string (B [])), 1, 16) := by kernel_rfl

theorem Strs.of_own {w : World} {base g cap : Nat} {e : TypeId} {l : List (List UInt8)} (h : w.ownsRow base e 1 (.slice (some ⟨g, 0, none⟩) l.length cap) l.length (l.map fun s => Value.string (B s))) : Strs w g l := by
  intro j s hs
  have := h.cells (g := g) rfl j (.string (B s)) (by simp [hs])
  rwa [add0] at this

theorem one_new2 (w : World) (o : Obj) (x : Value) (T : TypeId) : ∀ (j : Nat) (u : Value), [x][j]? = some u → ((w.alloc o).alloc (.cells #[x] T)).cell? ((⟨w.heap.size + 1, 0, none⟩ : Addr).add j) = some u := by
  intro j u h
  rw [add0]
  have hj : j = 0 := by have := (List.getElem?_eq_some_iff.1 h).1; simp at this; exact this
  subst hj
  have : x = u := by simpa using h
  subst this
  exact (Has.at_ (w.alloc o) (.cells #[x] T) (by simp)).cell 0 _ rfl

def RetStrs (l : List (List UInt8)) (w : World) (e : Ending) (w' : World) : Prop := ∃ g cap, e = .returned (.slice (some ⟨g, 0, none⟩) l.length cap) ∧ Strs w' g l ∧ Nx w w'

theorem names_rows : rowsL.map (·.name) = shB := by decide

theorem shB_at (k : Nat) (r : PR) (h : rowsL[k]? = some r) : shB[k]? = some r.name := by rw [← names_rows, List.getElem?_map, h]; rfl

set_option maxHeartbeats 2000000 in
theorem pNames_any (w : World) : Calls Try.prog 15 #[] w (RetStrs shB w) := by
  obtain ⟨i0, hi, hz0, hz1, hz2⟩ := info_parts str_info
  go_enter Try.func15, Try.ntmps15
  go_wp2_with fail
  refine (prows_some _).mono ?_
  rintro e w1 ⟨g, rfl, hR, hn1⟩
  have HN1 := Lib.hid hn1
  have HR := Lib.hid hR
  clear hR hn1
  go_wp2
  go_loopw [1, 6] (fun v i wr => ∃ k : Nat, k ≤ 27 ∧ i = .int .i64 k ∧ wr.ownsRow w1.heap.size 9 1 v k ((shB.take k).map fun s => Value.string (B s)) ∧ Nx w1 wr) (fun _ i _ => 27 - (intOf i).toNat)
  case atStart => exact ⟨0, by omega, rfl, ⟨by simp, .inl ⟨rfl, rfl⟩⟩, Nx.refl _⟩
  case round =>
    obtain ⟨k, hk, rfl, hown, hnx⟩ := hrel
    by_cases hlt : k < 27
    · obtain ⟨r, hr⟩ := row_at k hlt
      have HL := Lib.hid ((HR.out.keep hnx) k r hr)
      have HT := Lib.hid (take_snoc' shB k r.name (shB_at k r hr))
      have hsz := hnx.size
      have HNX := Lib.hid hnx
      clear hnx hr
      go_wp2_with (first | (refine wpList_load_mid (by rfl) 41 _ (by rfl) g (k * 10) (by rfl) (rowC r) _ HL.out Try.underlying41 rfl prow_size ?_) | (refine wpList_store_mid (by rfl) 41 _ _ (by rfl) wr.heap.size 0 (rowC r).toArray (by rfl) (by rfl) (prow_there wr) prow_size (prow_one r) ?_; rw [prow_set]) | (at_builtin; refine wpList_append_own _ rfl _ _ 35 rfl w1.heap.size 9 i0 (.string (B [])) 1 16 Try.underlying35 hi hz0 hz1 hz2 rfl (by decide) _ _ _ rfl ((hown.alloc _).alloc _) ⟨wr.heap.size + 1, 0, none⟩ 1 1 [.string (B r.name)] rfl rfl ?c1 ?c2 ?c3 ?c4 ?c5 ?_))
      case c1 => exact one_new2 _ _ _ _
      case c2 => simp [Value.oneCell']
      case c3 => unfold maxLen; omega
      case c4 => omega
      case c5 => simp; omega
      intro v2 w2 hown2 hg2 _
      have hn2 : Nx w1 w2 := ((HNX.out.alloc _).alloc _).grown hg2 (own_block hown)
      have H2 := Lib.hid (show w2.ownsRow w1.heap.size 9 1 v2 (k + 1) ((shB.take (k + 1)).map fun s => Value.string (B s)) by rw [HT.out, List.map_append, List.map_take]; exact hown2)
      have HN2 := Lib.hid hn2
      clear hown2 hg2 hown hn2
      go_wp2
      go_roundw
      case rel => exact ⟨k + 1, by omega, by go_num, H2.out, HN2.out⟩
      case measure => simp [intOf]; omega
    · have e : k = 27 := by omega
      subst e
      have H2 : wr.ownsRow w1.heap.size 9 1 u1 shB.length (shB.map fun s => Value.string (B s)) := hown
      obtain ⟨g2, cap, e2⟩ : ∃ g2 cap, u1 = .slice (some ⟨g2, 0, none⟩) shB.length cap := by
        rcases H2.2 with ⟨_, h0⟩ | ⟨g2, cap, _, e2, _⟩
        · exact absurd h0 (by decide)
        · exact ⟨g2, cap, e2⟩
      subst e2
      have HS := Lib.hid (Strs.of_own H2)
      have HNX := Lib.hid hnx
      clear H2 hown hnx
      go_wp2
      go_ret
      exact ⟨g2, cap, rfl, HS.out, HN1.out.trans HNX.out⟩

end Go.Proofs.Ytppnmaklggkogaa

/- Plain: the laws of the rows, by their places. -/
namespace Go.Proofs.Ytppnmaklggkogaa
open Go.RowKit
set_option linter.unusedVariables false
set_option linter.unusedSimpArgs false

/-- The parcel of an instruction, by a row. -/
def parc (r : PR) (i : In5) : Int := putV (i.rd % 4294967296) (i.rs1 % 4294967296) (i.rs2 % 4294967296) (i.imm % 4294967296) r.bits 0

theorem exp_at (n : Nat) (r : PR) (hr : rowsL[n]? = some r) (i : In5) (hf : fitsI r i = true) : expI (parc r i) = i ∧ dgN (parc r i) = n := by
  have hn : n < 27 := (List.getElem?_eq_some_iff.1 hr).1
  rcases (by omega : n = 0 ∨ n = 1 ∨ n = 2 ∨ n = 3 ∨ n = 4 ∨ n = 5 ∨ n = 6 ∨ n = 7 ∨ n = 8 ∨ n = 9 ∨ n = 10 ∨ n = 11 ∨ n = 12 ∨ n = 13 ∨ n = 14 ∨ n = 15 ∨ n = 16 ∨ n = 17 ∨ n = 18 ∨ n = 19 ∨ n = 20 ∨ n = 21 ∨ n = 22 ∨ n = 23 ∨ n = 24 ∨ n = 25 ∨ n = 26) with rfl | rfl | rfl | rfl | rfl | rfl | rfl | rfl | rfl | rfl | rfl | rfl | rfl | rfl | rfl | rfl | rfl | rfl | rfl | rfl | rfl | rfl | rfl | rfl | rfl | rfl | rfl
  · cases hr; exact xexp_0 i.op i.rd i.rs1 i.rs2 i.imm hf
  · cases hr; exact xexp_1 i.op i.rd i.rs1 i.rs2 i.imm hf
  · cases hr; exact xexp_2 i.op i.rd i.rs1 i.rs2 i.imm hf
  · cases hr; exact xexp_3 i.op i.rd i.rs1 i.rs2 i.imm hf
  · cases hr; exact xexp_4 i.op i.rd i.rs1 i.rs2 i.imm hf
  · cases hr; exact xexp_5 i.op i.rd i.rs1 i.rs2 i.imm hf
  · cases hr; exact xexp_6 i.op i.rd i.rs1 i.rs2 i.imm hf
  · cases hr; exact xexp_7 i.op i.rd i.rs1 i.rs2 i.imm hf
  · cases hr; exact xexp_8 i.op i.rd i.rs1 i.rs2 i.imm hf
  · cases hr; exact xexp_9 i.op i.rd i.rs1 i.rs2 i.imm hf
  · cases hr; exact xexp_10 i.op i.rd i.rs1 i.rs2 i.imm hf
  · cases hr; exact xexp_11 i.op i.rd i.rs1 i.rs2 i.imm hf
  · cases hr; exact xexp_12 i.op i.rd i.rs1 i.rs2 i.imm hf
  · cases hr; exact xexp_13 i.op i.rd i.rs1 i.rs2 i.imm hf
  · cases hr; exact xexp_14 i.op i.rd i.rs1 i.rs2 i.imm hf
  · cases hr; exact xexp_15 i.op i.rd i.rs1 i.rs2 i.imm hf
  · cases hr; exact xexp_16 i.op i.rd i.rs1 i.rs2 i.imm hf
  · cases hr; exact xexp_17 i.op i.rd i.rs1 i.rs2 i.imm hf
  · cases hr; exact xexp_18 i.op i.rd i.rs1 i.rs2 i.imm hf
  · cases hr; exact xexp_19 i.op i.rd i.rs1 i.rs2 i.imm hf
  · cases hr; exact xexp_20 i.op i.rd i.rs1 i.rs2 i.imm hf
  · cases hr; exact xexp_21 i.op i.rd i.rs1 i.rs2 i.imm hf
  · cases hr; exact xexp_22 i.op i.rd i.rs1 i.rs2 i.imm hf
  · cases hr; exact xexp_23 i.op i.rd i.rs1 i.rs2 i.imm hf
  · cases hr; exact xexp_24 i.op i.rd i.rs1 i.rs2 i.imm hf
  · cases hr; exact xexp_25 i.op i.rd i.rs1 i.rs2 i.imm hf
  · cases hr; exact xexp_26 i.op i.rd i.rs1 i.rs2 i.imm hf

theorem rp_at (n : Nat) (r : PR) (hr : rowsL[n]? = some r) (i : In5) (hf : fitsI r i = true) : layV (plL.getD n []).reverse ((i.imm + 4294967296) / unL.getD n 1) (baseL.getD n 0 + (rgL i.rd i.rs1 i.rs2).getD n 0) % 65536 = parc r i := by
  have hn : n < 27 := (List.getElem?_eq_some_iff.1 hr).1
  rcases (by omega : n = 0 ∨ n = 1 ∨ n = 2 ∨ n = 3 ∨ n = 4 ∨ n = 5 ∨ n = 6 ∨ n = 7 ∨ n = 8 ∨ n = 9 ∨ n = 10 ∨ n = 11 ∨ n = 12 ∨ n = 13 ∨ n = 14 ∨ n = 15 ∨ n = 16 ∨ n = 17 ∨ n = 18 ∨ n = 19 ∨ n = 20 ∨ n = 21 ∨ n = 22 ∨ n = 23 ∨ n = 24 ∨ n = 25 ∨ n = 26) with rfl | rfl | rfl | rfl | rfl | rfl | rfl | rfl | rfl | rfl | rfl | rfl | rfl | rfl | rfl | rfl | rfl | rfl | rfl | rfl | rfl | rfl | rfl | rfl | rfl | rfl | rfl
  · cases hr; exact rp_0 i.op i.rd i.rs1 i.rs2 i.imm hf
  · cases hr; exact rp_1 i.op i.rd i.rs1 i.rs2 i.imm hf
  · cases hr; exact rp_2 i.op i.rd i.rs1 i.rs2 i.imm hf
  · cases hr; exact rp_3 i.op i.rd i.rs1 i.rs2 i.imm hf
  · cases hr; exact rp_4 i.op i.rd i.rs1 i.rs2 i.imm hf
  · cases hr; exact rp_5 i.op i.rd i.rs1 i.rs2 i.imm hf
  · cases hr; exact rp_6 i.op i.rd i.rs1 i.rs2 i.imm hf
  · cases hr; exact rp_7 i.op i.rd i.rs1 i.rs2 i.imm hf
  · cases hr; exact rp_8 i.op i.rd i.rs1 i.rs2 i.imm hf
  · cases hr; exact rp_9 i.op i.rd i.rs1 i.rs2 i.imm hf
  · cases hr; exact rp_10 i.op i.rd i.rs1 i.rs2 i.imm hf
  · cases hr; exact rp_11 i.op i.rd i.rs1 i.rs2 i.imm hf
  · cases hr; exact rp_12 i.op i.rd i.rs1 i.rs2 i.imm hf
  · cases hr; exact rp_13 i.op i.rd i.rs1 i.rs2 i.imm hf
  · cases hr; exact rp_14 i.op i.rd i.rs1 i.rs2 i.imm hf
  · cases hr; exact rp_15 i.op i.rd i.rs1 i.rs2 i.imm hf
  · cases hr; exact rp_16 i.op i.rd i.rs1 i.rs2 i.imm hf
  · cases hr; exact rp_17 i.op i.rd i.rs1 i.rs2 i.imm hf
  · cases hr; exact rp_18 i.op i.rd i.rs1 i.rs2 i.imm hf
  · cases hr; exact rp_19 i.op i.rd i.rs1 i.rs2 i.imm hf
  · cases hr; exact rp_20 i.op i.rd i.rs1 i.rs2 i.imm hf
  · cases hr; exact rp_21 i.op i.rd i.rs1 i.rs2 i.imm hf
  · cases hr; exact rp_22 i.op i.rd i.rs1 i.rs2 i.imm hf
  · cases hr; exact rp_23 i.op i.rd i.rs1 i.rs2 i.imm hf
  · cases hr; exact rp_24 i.op i.rd i.rs1 i.rs2 i.imm hf
  · cases hr; exact rp_25 i.op i.rd i.rs1 i.rs2 i.imm hf
  · cases hr; exact rp_26 i.op i.rd i.rs1 i.rs2 i.imm hf

theorem rb_at (n : Nat) (r : PR) (hr : rowsL[n]? = some r) (h : Int) (h0 : 0 ≤ h) (h1 : h < 65536) (hc : chk h r.bits = true) (hf : fitsI r (rowI h r) = true) : expI h = rowI h r ∧ dgN h = n ∧ parc r (rowI h r) = h := by
  have hn : n < 27 := (List.getElem?_eq_some_iff.1 hr).1
  rcases (by omega : n = 0 ∨ n = 1 ∨ n = 2 ∨ n = 3 ∨ n = 4 ∨ n = 5 ∨ n = 6 ∨ n = 7 ∨ n = 8 ∨ n = 9 ∨ n = 10 ∨ n = 11 ∨ n = 12 ∨ n = 13 ∨ n = 14 ∨ n = 15 ∨ n = 16 ∨ n = 17 ∨ n = 18 ∨ n = 19 ∨ n = 20 ∨ n = 21 ∨ n = 22 ∨ n = 23 ∨ n = 24 ∨ n = 25 ∨ n = 26) with rfl | rfl | rfl | rfl | rfl | rfl | rfl | rfl | rfl | rfl | rfl | rfl | rfl | rfl | rfl | rfl | rfl | rfl | rfl | rfl | rfl | rfl | rfl | rfl | rfl | rfl | rfl
  · cases hr; exact rb_0 h h0 h1 hc hf
  · cases hr; exact rb_1 h h0 h1 hc hf
  · cases hr; exact rb_2 h h0 h1 hc hf
  · cases hr; exact rb_3 h h0 h1 hc hf
  · cases hr; exact rb_4 h h0 h1 hc hf
  · cases hr; exact rb_5 h h0 h1 hc hf
  · cases hr; exact rb_6 h h0 h1 hc hf
  · cases hr; exact rb_7 h h0 h1 hc hf
  · cases hr; exact rb_8 h h0 h1 hc hf
  · cases hr; exact rb_9 h h0 h1 hc hf
  · cases hr; exact rb_10 h h0 h1 hc hf
  · cases hr; exact rb_11 h h0 h1 hc hf
  · cases hr; exact rb_12 h h0 h1 hc hf
  · cases hr; exact rb_13 h h0 h1 hc hf
  · cases hr; exact rb_14 h h0 h1 hc hf
  · cases hr; exact rb_15 h h0 h1 hc hf
  · cases hr; exact rb_16 h h0 h1 hc hf
  · cases hr; exact rb_17 h h0 h1 hc hf
  · cases hr; exact rb_18 h h0 h1 hc hf
  · cases hr; exact rb_19 h h0 h1 hc hf
  · cases hr; exact rb_20 h h0 h1 hc hf
  · cases hr; exact rb_21 h h0 h1 hc hf
  · cases hr; exact rb_22 h h0 h1 hc hf
  · cases hr; exact rb_23 h h0 h1 hc hf
  · cases hr; exact rb_24 h h0 h1 hc hf
  · cases hr; exact rb_25 h h0 h1 hc hf
  · cases hr; exact rb_26 h h0 h1 hc hf

theorem rc_at (n : Nat) (r : PR) (hr : rowsL[n]? = some r) (h : Int) (h0 : 0 ≤ h) (h1 : h < 65536) (hd : dgN h = n) (hf : fitsI r (expI h) = true) : chk h r.bits = true := by
  have hn : n < 27 := (List.getElem?_eq_some_iff.1 hr).1
  rcases (by omega : n = 0 ∨ n = 1 ∨ n = 2 ∨ n = 3 ∨ n = 4 ∨ n = 5 ∨ n = 6 ∨ n = 7 ∨ n = 8 ∨ n = 9 ∨ n = 10 ∨ n = 11 ∨ n = 12 ∨ n = 13 ∨ n = 14 ∨ n = 15 ∨ n = 16 ∨ n = 17 ∨ n = 18 ∨ n = 19 ∨ n = 20 ∨ n = 21 ∨ n = 22 ∨ n = 23 ∨ n = 24 ∨ n = 25 ∨ n = 26) with rfl | rfl | rfl | rfl | rfl | rfl | rfl | rfl | rfl | rfl | rfl | rfl | rfl | rfl | rfl | rfl | rfl | rfl | rfl | rfl | rfl | rfl | rfl | rfl | rfl | rfl | rfl
  · cases hr; exact rc_0 h h0 h1 hd hf
  · cases hr; exact rc_1 h h0 h1 hd hf
  · cases hr; exact rc_2 h h0 h1 hd hf
  · cases hr; exact rc_3 h h0 h1 hd hf
  · cases hr; exact rc_4 h h0 h1 hd hf
  · cases hr; exact rc_5 h h0 h1 hd hf
  · cases hr; exact rc_6 h h0 h1 hd hf
  · cases hr; exact rc_7 h h0 h1 hd hf
  · cases hr; exact rc_8 h h0 h1 hd hf
  · cases hr; exact rc_9 h h0 h1 hd hf
  · cases hr; exact rc_10 h h0 h1 hd hf
  · cases hr; exact rc_11 h h0 h1 hd hf
  · cases hr; exact rc_12 h h0 h1 hd hf
  · cases hr; exact rc_13 h h0 h1 hd hf
  · cases hr; exact rc_14 h h0 h1 hd hf
  · cases hr; exact rc_15 h h0 h1 hd hf
  · cases hr; exact rc_16 h h0 h1 hd hf
  · cases hr; exact rc_17 h h0 h1 hd hf
  · cases hr; exact rc_18 h h0 h1 hd hf
  · cases hr; exact rc_19 h h0 h1 hd hf
  · cases hr; exact rc_20 h h0 h1 hd hf
  · cases hr; exact rc_21 h h0 h1 hd hf
  · cases hr; exact rc_22 h h0 h1 hd hf
  · cases hr; exact rc_23 h h0 h1 hd hf
  · cases hr; exact rc_24 h h0 h1 hd hf
  · cases hr; exact rc_25 h h0 h1 hd hf
  · cases hr; exact rc_26 h h0 h1 hd hf

theorem rd_at (n : Nat) (r : PR) (hr : rowsL[n]? = some r) (h : Int) (h0 : 0 ≤ h) (h1 : h < 65536) (hd : dgN h = n) (hc : chk h r.bits = true) : expI h = none5 ∨ expI h = rowI h r := by
  have hn : n < 27 := (List.getElem?_eq_some_iff.1 hr).1
  rcases (by omega : n = 0 ∨ n = 1 ∨ n = 2 ∨ n = 3 ∨ n = 4 ∨ n = 5 ∨ n = 6 ∨ n = 7 ∨ n = 8 ∨ n = 9 ∨ n = 10 ∨ n = 11 ∨ n = 12 ∨ n = 13 ∨ n = 14 ∨ n = 15 ∨ n = 16 ∨ n = 17 ∨ n = 18 ∨ n = 19 ∨ n = 20 ∨ n = 21 ∨ n = 22 ∨ n = 23 ∨ n = 24 ∨ n = 25 ∨ n = 26) with rfl | rfl | rfl | rfl | rfl | rfl | rfl | rfl | rfl | rfl | rfl | rfl | rfl | rfl | rfl | rfl | rfl | rfl | rfl | rfl | rfl | rfl | rfl | rfl | rfl | rfl | rfl
  · cases hr; exact rd_0 h h0 h1 hd hc
  · cases hr; exact rd_1 h h0 h1 hd hc
  · cases hr; exact rd_2 h h0 h1 hd hc
  · cases hr; exact rd_3 h h0 h1 hd hc
  · cases hr; exact rd_4 h h0 h1 hd hc
  · cases hr; exact rd_5 h h0 h1 hd hc
  · cases hr; exact rd_6 h h0 h1 hd hc
  · cases hr; exact rd_7 h h0 h1 hd hc
  · cases hr; exact rd_8 h h0 h1 hd hc
  · cases hr; exact rd_9 h h0 h1 hd hc
  · cases hr; exact rd_10 h h0 h1 hd hc
  · cases hr; exact rd_11 h h0 h1 hd hc
  · cases hr; exact rd_12 h h0 h1 hd hc
  · cases hr; exact rd_13 h h0 h1 hd hc
  · cases hr; exact rd_14 h h0 h1 hd hc
  · cases hr; exact rd_15 h h0 h1 hd hc
  · cases hr; exact rd_16 h h0 h1 hd hc
  · cases hr; exact rd_17 h h0 h1 hd hc
  · cases hr; exact rd_18 h h0 h1 hd hc
  · cases hr; exact rd_19 h h0 h1 hd hc
  · cases hr; exact rd_20 h h0 h1 hd hc
  · cases hr; exact rd_21 h h0 h1 hd hc
  · cases hr; exact rd_22 h h0 h1 hd hc
  · cases hr; exact rd_23 h h0 h1 hd hc
  · cases hr; exact rd_24 h h0 h1 hd hc
  · cases hr; exact rd_25 h h0 h1 hd hc
  · cases hr; exact rd_26 h h0 h1 hd hc

theorem fit_at (n : Nat) (r : PR) (hr : rowsL[n]? = some r) (op rd rs1 rs2 imm : Int) : fitsB r op rd rs1 rs2 imm = (mayB op rd rs1 rs2 imm && (refL (nmB.getD op.toNat []) rd rs1 rs2 imm).getD n false) := by
  have hn : n < 27 := (List.getElem?_eq_some_iff.1 hr).1
  rcases (by omega : n = 0 ∨ n = 1 ∨ n = 2 ∨ n = 3 ∨ n = 4 ∨ n = 5 ∨ n = 6 ∨ n = 7 ∨ n = 8 ∨ n = 9 ∨ n = 10 ∨ n = 11 ∨ n = 12 ∨ n = 13 ∨ n = 14 ∨ n = 15 ∨ n = 16 ∨ n = 17 ∨ n = 18 ∨ n = 19 ∨ n = 20 ∨ n = 21 ∨ n = 22 ∨ n = 23 ∨ n = 24 ∨ n = 25 ∨ n = 26) with rfl | rfl | rfl | rfl | rfl | rfl | rfl | rfl | rfl | rfl | rfl | rfl | rfl | rfl | rfl | rfl | rfl | rfl | rfl | rfl | rfl | rfl | rfl | rfl | rfl | rfl | rfl
  · cases hr; exact fit_0 op rd rs1 rs2 imm
  · cases hr; exact fit_1 op rd rs1 rs2 imm
  · cases hr; exact fit_2 op rd rs1 rs2 imm
  · cases hr; exact fit_3 op rd rs1 rs2 imm
  · cases hr; exact fit_4 op rd rs1 rs2 imm
  · cases hr; exact fit_5 op rd rs1 rs2 imm
  · cases hr; exact fit_6 op rd rs1 rs2 imm
  · cases hr; exact fit_7 op rd rs1 rs2 imm
  · cases hr; exact fit_8 op rd rs1 rs2 imm
  · cases hr; exact fit_9 op rd rs1 rs2 imm
  · cases hr; exact fit_10 op rd rs1 rs2 imm
  · cases hr; exact fit_11 op rd rs1 rs2 imm
  · cases hr; exact fit_12 op rd rs1 rs2 imm
  · cases hr; exact fit_13 op rd rs1 rs2 imm
  · cases hr; exact fit_14 op rd rs1 rs2 imm
  · cases hr; exact fit_15 op rd rs1 rs2 imm
  · cases hr; exact fit_16 op rd rs1 rs2 imm
  · cases hr; exact fit_17 op rd rs1 rs2 imm
  · cases hr; exact fit_18 op rd rs1 rs2 imm
  · cases hr; exact fit_19 op rd rs1 rs2 imm
  · cases hr; exact fit_20 op rd rs1 rs2 imm
  · cases hr; exact fit_21 op rd rs1 rs2 imm
  · cases hr; exact fit_22 op rd rs1 rs2 imm
  · cases hr; exact fit_23 op rd rs1 rs2 imm
  · cases hr; exact fit_24 op rd rs1 rs2 imm
  · cases hr; exact fit_25 op rd rs1 rs2 imm
  · cases hr; exact fit_26 op rd rs1 rs2 imm

theorem none_fits : ∀ r ∈ rowsL, fitsI r none5 = false := by decide

theorem idx_at : ∀ n, n < 27 → shB.idxOf (shB.getD n []) = n := by decide

theorem name_at (n : Nat) (r : PR) (hr : rowsL[n]? = some r) : r.name = shB.getD n [] ∧ shB.idxOf r.name = n := by
  have hn : n < 27 := (List.getElem?_eq_some_iff.1 hr).1
  have e : shB[n]? = some r.name := by rw [← names_rows, List.getElem?_map, hr]; rfl
  have e2 : r.name = shB.getD n [] := by rw [List.getD_eq_getElem?_getD, e]; rfl
  exact ⟨e2, by rw [e2]; exact idx_at n hn⟩

/-- What a row asks is what the document asks. -/
theorem fit_ref (n : Nat) (r : PR) (hr : rowsL[n]? = some r) (op rd rs1 rs2 imm : Int) : fitsB r op rd rs1 rs2 imm = rFitB r.name op rd rs1 rs2 imm := by
  rw [fit_at n r hr]
  unfold rFitB refB
  rw [(name_at n r hr).2]

theorem findP_at (nm : ByteArray) (r : PR) (h : findP nm = some r) : r.name = nm.toList ∧ ∃ n : Nat, rowsL[n]? = some r := by
  unfold findP at h
  have h1 := List.find?_some h
  have h2 := List.mem_of_find?_eq_some h
  obtain ⟨n, hn, e⟩ := List.getElem_of_mem h2
  exact ⟨by simpa using h1, n, by rw [List.getElem?_eq_getElem hn, e]⟩

theorem fitS_ref (nm : ByteArray) (op rd rs1 rs2 imm : Int) : fitS nm op rd rs1 rs2 imm = rFitB nm.toList op rd rs1 rs2 imm := by
  unfold fitS findR
  cases h : findP nm with
  | none =>
    have e : shB.idxOf nm.toList = 27 := List.idxOf_eq_length (by
      intro hm
      rw [← names_rows] at hm
      obtain ⟨r, hr, e⟩ := List.mem_map.1 hm
      have := List.find?_eq_none.1 h r hr
      simp [e] at this)
    unfold rFitB refB
    rw [e]
    show false = _
    simp [refL]
  | some r =>
    obtain ⟨e, n, hn⟩ := findP_at nm r h
    show fitsB r op rd rs1 rs2 imm = _
    rw [fit_ref n r hn, e]

theorem rFit_idx (l : List UInt8) (op rd rs1 rs2 imm : Int) (h : rFitB l op rd rs1 rs2 imm = true) : shB.idxOf l < 27 := by
  unfold rFitB at h
  simp only [Bool.and_eq_true] at h
  rcases Nat.lt_or_ge (shB.idxOf l) 27 with h' | h'
  · exact h'
  · have := h.2
    unfold refB at this
    rw [List.getD_eq_getElem?_getD, List.getElem?_eq_none (by show 27 ≤ _; exact h')] at this
    cases this

theorem parc_bd (r : PR) (i : In5) (hb : r.bits.length = 16) : 0 ≤ parc r i ∧ parc r i < 65536 := by
  have g : ∀ (l : List UInt8) (a b c d h : Int) (k : Nat), 0 ≤ h → h < 2 ^ k → 0 ≤ putV a b c d l h ∧ putV a b c d l h < 2 ^ (k + l.length) := by
    intro l a b c d
    induction l with
    | nil => intro h k h0 h1; exact ⟨h0, h1⟩
    | cons x l ih =>
      intro h k h0 h1
      have hb := bitV_01 a b c d x l
      have := ih (2 * h + bitV a b c d x l) (k + 1) (by omega) (pow_next h _ k h1 hb.2)
      rw [List.length_cons, show k + (l.length + 1) = k + 1 + l.length by omega]
      exact this
  have := g r.bits (i.rd % 4294967296) (i.rs1 % 4294967296) (i.rs2 % 4294967296) (i.imm % 4294967296) 0 0 (by omega) (by decide)
  rw [hb] at this
  exact this

theorem bits_len : ∀ r ∈ rowsL, r.bits.length = 16 := by decide

theorem rowGet_some (h : Int) (h0 : 0 ≤ h) (h1 : h < 65536) (n : Nat) (r : PR) (hr : rowsL[n]? = some r) (i : In5) (hg : rowGet h r = some i) : expI h = i ∧ dgN h = n ∧ parc r i = h ∧ fitsI r i = true := by
  rw [rowGet_chk h r (List.mem_of_getElem? hr)] at hg
  split at hg
  · rename_i hc
    cases hg
    obtain ⟨a, b, c⟩ := rb_at n r hr h h0 h1 hc.1 hc.2
    exact ⟨a, b, c, hc.2⟩
  · cases hg

theorem rowGet_of (h : Int) (h0 : 0 ≤ h) (h1 : h < 65536) (n : Nat) (r : PR) (hr : rowsL[n]? = some r) (hd : dgN h = n) (hf : fitsI r (expI h) = true) : rowGet h r = some (expI h) := by
  have hm := List.mem_of_getElem? hr
  have hc := rc_at n r hr h h0 h1 hd hf
  have e : expI h = rowI h r := by
    rcases rd_at n r hr h h0 h1 hd hc with e | e
    · rw [e, none_fits r hm] at hf; cases hf
    · exact e
  rw [rowGet_chk h r hm, ← e, if_pos ⟨hc, hf⟩]

theorem getP_some (h : Int) (l : List PR) (r : PR) (i : In5) (hg : getP h l = some (r, i)) : r ∈ l ∧ rowGet h r = some i := by
  induction l with
  | nil => cases hg
  | cons a l ih =>
    unfold getP at hg
    split at hg
    · rename_i j hj
      cases hg
      exact ⟨List.mem_cons_self, hj⟩
    · obtain ⟨h1, h2⟩ := ih hg
      exact ⟨List.mem_cons_of_mem _ h1, h2⟩

theorem getP_none (h : Int) (l : List PR) (hg : getP h l = none) : ∀ r ∈ l, rowGet h r = none := by
  induction l with
  | nil => intro r hr; cases hr
  | cons a l ih =>
    unfold getP at hg
    split at hg
    · cases hg
    · rename_i hj
      intro r hr
      rcases List.mem_cons.1 hr with e | hr
      · rw [e]; exact hj
      · exact ih hg r hr

/-- What press reads in a parcel is what the document reads. -/
theorem getV_ref (h : Int) (h0 : 0 ≤ h) (h1 : h < 65536) : getV h = rGetV h := by
  unfold getV rGetV
  cases hg : getP h rowsL with
  | none =>
    have e : rGetB h = false := by
      apply Bool.eq_false_iff.2
      intro hb
      unfold rGetB at hb
      simp only [Bool.and_eq_true] at hb
      have hi := rFit_idx _ _ _ _ _ _ hb.2
      have hn : dgN h < 27 := by
        rcases Nat.lt_or_ge (dgN h) 27 with h' | h'
        · exact h'
        · exfalso
          have : dgS h = [] := by unfold dgS; rw [List.getD_eq_getElem?_getD, List.getElem?_eq_none (by show 27 ≤ _; exact h')]; rfl
          rw [this] at hi
          exact absurd hi (by decide)
      obtain ⟨r, hr⟩ := row_at (dgN h) hn
      have hf : fitsI r (expI h) = true := by
        unfold fitsI
        rw [fit_ref _ r hr, (name_at _ r hr).1]
        exact hb.2
      have := rowGet_of h h0 h1 _ r hr rfl hf
      rw [getP_none h rowsL hg r (List.mem_of_getElem? hr)] at this
      cases this
    rw [e, if_neg (by simp)]
  | some p =>
    obtain ⟨r, i⟩ := p
    obtain ⟨hm, hr⟩ := getP_some h rowsL r i hg
    obtain ⟨n, hn, en⟩ := List.getElem_of_mem hm
    have hrn : rowsL[n]? = some r := by rw [List.getElem?_eq_getElem hn, en]
    obtain ⟨a, b, c, d⟩ := rowGet_some h h0 h1 n r hrn i hr
    have hs : dgS h = r.name := by unfold dgS; rw [b, (name_at n r hrn).1]
    have hf : rFitB r.name i.op i.rd i.rs1 i.rs2 i.imm = true := by rw [← fit_ref n r hrn]; exact d
    have ho : 0 < i.op := by
      have hm2 : mayB i.op i.rd i.rs1 i.rs2 i.imm = true := by unfold rFitB at hf; simp only [Bool.and_eq_true] at hf; exact hf.1
      obtain ⟨k, e1, e2, e3⟩ := may_nm _ _ _ _ _ hm2
      rcases Int.lt_or_le 0 i.op with h' | h'
      · exact h'
      · exfalso
        have hz : formN i.op = 0 := by unfold formN; rw [show i.op.toNat = 0 by omega]; rfl
        simp [mayB, hz] at hm2
    have e : rGetB h = true := by
      unfold rGetB
      rw [a, hs, hf]
      simp [ho]
    rw [e, if_pos rfl, hs, a]

/-- An instruction that fits: its parcel is expanded to it, and read as its short. -/
theorem put_all (nm : ByteArray) (i : In5) (hf : fitS nm i.op i.rd i.rs1 i.rs2 i.imm = true) :
    ∃ h, PutB nm i.op i.rd i.rs1 i.rs2 i.imm = h ∧ rPutB nm.toList i.op i.rd i.rs1 i.rs2 i.imm = h ∧ 0 ≤ h ∧ h < 65536 ∧ expI h = i ∧ rGetV h = .tuple #[.string nm, insV i, .bool true] ∧ 0 < i.op := by
  have hR := fitS_ref nm i.op i.rd i.rs1 i.rs2 i.imm
  rw [hf] at hR
  unfold fitS at hf
  simp only [Bool.and_eq_true] at hf
  obtain ⟨r, hr⟩ := Option.isSome_iff_exists.1 hf.1
  have er : findR nm = r := by unfold findR; rw [hr]; rfl
  obtain ⟨hnm, n, hn⟩ := findP_at nm r hr
  have hfi : fitsI r i = true := by have := hf.2; rw [er] at this; exact this
  obtain ⟨x1, x2⟩ := exp_at n r hn i hfi
  obtain ⟨b1, b2⟩ := parc_bd r i (bits_len r (List.mem_of_getElem? hn))
  have ho : 0 < i.op := by
    have hm2 : mayB i.op i.rd i.rs1 i.rs2 i.imm = true := by unfold rFitB at hR; simp only [Bool.true_eq, Bool.and_eq_true] at hR; exact hR.1
    rcases Int.lt_or_le 0 i.op with h' | h'
    · exact h'
    · exfalso
      have hz : formN i.op = 0 := by unfold formN; rw [show i.op.toNat = 0 by omega]; rfl
      simp [mayB, hz] at hm2
  refine ⟨parc r i, ?_, ?_, b1, b2, x1, ?_, ho⟩
  · unfold PutB fitS
    rw [hf.1, er, show fitsB r i.op i.rd i.rs1 i.rs2 i.imm = true from hfi]
    rfl
  · unfold rPutB
    rw [← hR, if_pos rfl, ← hnm, (name_at n r hn).2]
    exact rp_at n r hn i hfi
  · unfold rGetV
    have hs : dgS (parc r i) = r.name := by unfold dgS; rw [x2, (name_at n r hn).1]
    have e : rGetB (parc r i) = true := by
      unfold rGetB
      rw [x1, hs, hnm, ← hR]
      simp [ho]
    rw [e, if_pos rfl, hs, x1, hnm, ← bytes_eq rfl]

/-- What is read is put as it was. -/
theorem get_back (h : Int) (h0 : 0 ≤ h) (h1 : h < 65536) (hb : rGetB h = true) : PutB (B (dgS h)) (expI h).op (expI h).rd (expI h).rs1 (expI h).rs2 (expI h).imm = h ∧ fitS (B (dgS h)) (expI h).op (expI h).rd (expI h).rs1 (expI h).rs2 (expI h).imm = true := by
  have hB : (B (dgS h)).toList = dgS h := by rw [ByteArray.toList_eq]
  have hf : fitS (B (dgS h)) (expI h).op (expI h).rd (expI h).rs1 (expI h).rs2 (expI h).imm = true := by
    rw [fitS_ref, hB]
    unfold rGetB at hb
    simp only [Bool.and_eq_true] at hb
    exact hb.2
  refine ⟨?_, hf⟩
  have hfs := hf
  unfold fitS at hf
  simp only [Bool.and_eq_true] at hf
  obtain ⟨r, hr⟩ := Option.isSome_iff_exists.1 hf.1
  have er : findR (B (dgS h)) = r := by unfold findR; rw [hr]; rfl
  obtain ⟨hnm, n, hn⟩ := findP_at _ r hr
  rw [hB] at hnm
  have hfi : fitsI r (expI h) = true := by have := hf.2; rw [er] at this; exact this
  have hd : dgN h = n := by
    have hi := rFit_idx _ _ _ _ _ _ (show rFitB (dgS h) (expI h).op (expI h).rd (expI h).rs1 (expI h).rs2 (expI h).imm = true by rw [← hB, ← fitS_ref]; exact hfs)
    have hn27 : dgN h < 27 := by
      rcases Nat.lt_or_ge (dgN h) 27 with h' | h'
      · exact h'
      · exfalso
        have : dgS h = [] := by unfold dgS; rw [List.getD_eq_getElem?_getD, List.getElem?_eq_none (by show 27 ≤ _; exact h')]; rfl
        rw [this] at hi
        exact absurd hi (by decide)
    have e1 := idx_at (dgN h) hn27
    have e2 := (name_at n r hn).2
    rw [hnm] at e2
    unfold dgS at e2
    omega
  obtain ⟨_, _, e, _⟩ := rowGet_some h h0 h1 n r hn _ (rowGet_of h h0 h1 n r hn hd hfi)
  unfold PutB
  rw [hfs, if_pos rfl, er]
  exact e

end Go.Proofs.Ytppnmaklggkogaa

/- Contracts of package press: the first short that an instruction fits. -/
namespace Go.Proofs.Ytppnmaklggkogaa
open Go.RowKit
set_option linter.unusedVariables false
set_option linter.unusedSimpArgs false

/-- The first short that an instruction fits. -/
def shortP (op rd rs1 rs2 imm : Int) : Option PR := rowsL.find? (fun r => fitsB r op rd rs1 rs2 imm)

def shortN (op rd rs1 rs2 imm : Int) : List UInt8 := ((shortP op rd rs1 rs2 imm).getD PR0).name

theorem short_at (op rd rs1 rs2 imm : Int) (k : Nat) (r : PR) (hr : rowsL[k]? = some r) (hp : fitsB r op rd rs1 rs2 imm = true) (hno : ∀ j r', j < k → rowsL[j]? = some r' → fitsB r' op rd rs1 rs2 imm = false) : shortN op rd rs1 rs2 imm = r.name := by
  obtain ⟨hk, e⟩ := List.getElem?_eq_some_iff.1 hr
  have : shortP op rd rs1 rs2 imm = some r := by
    unfold shortP
    rw [List.find?_eq_some_iff_getElem]
    refine ⟨hp, k, hk, e, fun j hj => ?_⟩
    rw [hno j _ hj (List.getElem?_eq_getElem (by omega))]
    rfl
  unfold shortN
  rw [this]
  rfl

theorem short_no (op rd rs1 rs2 imm : Int) (hno : ∀ j r', j < 27 → rowsL[j]? = some r' → fitsB r' op rd rs1 rs2 imm = false) : shortN op rd rs1 rs2 imm = [] := by
  have : shortP op rd rs1 rs2 imm = none := by
    unfold shortP
    rw [List.find?_eq_none]
    intro r hr
    obtain ⟨j, hj, e⟩ := List.getElem_of_mem hr
    rw [hno j r hj (by rw [List.getElem?_eq_getElem hj, e])]
    simp
  unfold shortN
  rw [this]
  rfl

set_option maxHeartbeats 2000000 in
theorem pShort_any (op rd rs1 rs2 imm : Int) (w : World) (hv : -2147483648 ≤ imm) (hv' : imm ≤ 2147483647) :
    Calls Try.prog 18 #[.agg #[.int .i64 op, .int .i64 rd, .int .i64 rs1, .int .i64 rs2, .int .i32 imm]] w fun e w' => e = .returned (.string (B (shortN op rd rs1 rs2 imm))) ∧ Nx w w' := by
  have HE0 := Lib.hid (fun k r hr hp hno => short_at op rd rs1 rs2 imm k r hr hp hno)
  have HE1 := Lib.hid (short_no op rd rs1 rs2 imm)
  go_enter Try.func18, Try.ntmps18
  go_wp2_with fail
  refine (prows_some _).mono ?_
  rintro e w1 ⟨g, rfl, hR, hn1⟩
  have HN1 := Lib.hid hn1
  have HR := Lib.hid hR
  clear hR hn1
  go_wp2
  go_loopw [4, 7] (fun _ i wr => ∃ k : Nat, k ≤ 27 ∧ i = .int .i64 k ∧ Nx w1 wr ∧ Hid (∀ j r', j < k → rowsL[j]? = some r' → fitsB r' op rd rs1 rs2 imm = false)) (fun _ i _ => 27 - (intOf i).toNat)
  case atStart => exact ⟨0, by omega, rfl, Nx.refl _, Lib.hid (fun j r' hj => absurd hj (by omega))⟩
  case round =>
    obtain ⟨k, hk, rfl, hnx, hno⟩ := hrel
    obtain ⟨c0, c1, c2, c3, c4, hz⟩ := five_in (HN1.out.trans hnx)
    have HNX := Lib.hid hnx
    clear hnx
    by_cases hlt : k < 27
    · obtain ⟨r, hr⟩ := row_at k hlt
      have hok := row_ok k r hr
      have HOK := Lib.hid hok
      have HL := Lib.hid ((HR.out.keep HNX.out) k r hr)
      have HRr := Lib.hid hr
      clear hr hok
      cases hp : fitsB r op rd rs1 rs2 imm
      · go_wp2_with (first | (refine wpList_load_mid (by rfl) 41 _ (by rfl) g (k * 10) (by rfl) (rowC r) _ HL.out Try.underlying41 rfl prow_size ?_) | (refine wpList_load_mid (by rfl) 41 _ (by rfl) wr.heap.size 0 (by rfl) (rowC r) _ (range_new wr r) Try.underlying41 rfl prow_size ?_) | (refine wpList_store_mid (by rfl) 41 _ _ (by rfl) wr.heap.size 0 (rowC r).toArray (by rfl) (by rfl) (prow_there wr) prow_size (prow_one r) ?_; rw [prow_set]) | (go_at_call 21; refine (pfits_any r op rd rs1 rs2 imm _ HOK.out hv hv').mono ?_; rintro e w3 ⟨rfl, hn3⟩; have HN3 := Lib.hid hn3; clear hn3))
        go_roundw
        case rel =>
          refine ⟨k + 1, by omega, by go_num, (HNX.out.alloc _).trans HN3.out, Lib.hid (fun j r' hj hr' => ?_)⟩
          by_cases ej : j = k
          · subst ej
            rw [HRr.out] at hr'
            cases hr'
            exact hp
          · exact hno.out j r' (by omega) hr'
        case measure => simp [intOf]; omega
      · have E1 := Lib.hid (HE0.out k r HRr.out hp hno.out)
        go_wp2_with (first | (refine wpList_load_mid (by rfl) 41 _ (by rfl) g (k * 10) (by rfl) (rowC r) _ HL.out Try.underlying41 rfl prow_size ?_) | (refine wpList_load_mid (by rfl) 41 _ (by rfl) wr.heap.size 0 (by rfl) (rowC r) _ (range_new wr r) Try.underlying41 rfl prow_size ?_) | (refine wpList_store_mid (by rfl) 41 _ _ (by rfl) wr.heap.size 0 (rowC r).toArray (by rfl) (by rfl) (prow_there wr) prow_size (prow_one r) ?_; rw [prow_set]) | (go_at_call 21; refine (pfits_any r op rd rs1 rs2 imm _ HOK.out hv hv').mono ?_; rintro e w3 ⟨rfl, hn3⟩; have q0 : w3.cell? ⟨wr.heap.size, 0, none⟩ = some (.string (B r.name)) := hn3.cell (by simp [rowC]); have HN3 := Lib.hid hn3; clear hn3))
        go_ret
        exact ⟨by rw [E1.out]; rfl, ((Nx.refl w).alloc _).trans (HN1.out.trans ((HNX.out.alloc _).trans HN3.out))⟩
    · have E1 := Lib.hid (HE1.out (fun j r' hj hr' => hno.out j r' (by omega) hr'))
      go_wp2
      go_ret
      exact ⟨by rw [E1.out]; rfl, ((Nx.refl w).alloc _).trans (HN1.out.trans HNX.out)⟩

end Go.Proofs.Ytppnmaklggkogaa

/- Plain: the first short that an instruction fits; unlike instructions have unlike parcels. -/
namespace Go.Proofs.Ytppnmaklggkogaa
open Go.RowKit
set_option linter.unusedVariables false
set_option linter.unusedSimpArgs false

theorem shortL_rows (op rd rs1 rs2 imm : Int) (l : List PR) (h : ∀ r ∈ l, fitsB r op rd rs1 rs2 imm = rFitB r.name op rd rs1 rs2 imm) :
    shortL op rd rs1 rs2 imm (l.map (·.name)) = ((l.find? (fun r => fitsB r op rd rs1 rs2 imm)).getD PR0).name := by
  induction l with
  | nil => rfl
  | cons r l ih =>
    simp only [List.map_cons, shortL, List.find?_cons]
    rw [← h r List.mem_cons_self]
    cases hf : fitsB r op rd rs1 rs2 imm
    · simp only [Bool.false_eq_true, if_false]
      exact ih (fun x hx => h x (List.mem_cons_of_mem _ hx))
    · simp

theorem fit_mem (op rd rs1 rs2 imm : Int) (r : PR) (hr : r ∈ rowsL) : fitsB r op rd rs1 rs2 imm = rFitB r.name op rd rs1 rs2 imm := by
  obtain ⟨n, hn, e⟩ := List.getElem_of_mem hr
  exact fit_ref n r (by rw [List.getElem?_eq_getElem hn, e]) op rd rs1 rs2 imm

theorem short_ref (op rd rs1 rs2 imm : Int) : shortL op rd rs1 rs2 imm shB = shortN op rd rs1 rs2 imm := by
  rw [← names_rows]
  unfold shortN shortP
  exact shortL_rows op rd rs1 rs2 imm rowsL (fit_mem op rd rs1 rs2 imm)

theorem B_list (l : List UInt8) : (B l).toList = l := by rw [ByteArray.toList_eq]

theorem short_fits (op rd rs1 rs2 imm : Int) : shortN op rd rs1 rs2 imm = [] ∨ fitS (B (shortN op rd rs1 rs2 imm)) op rd rs1 rs2 imm = true := by
  unfold shortN shortP
  cases h : rowsL.find? (fun r => fitsB r op rd rs1 rs2 imm) with
  | none => left; rfl
  | some r =>
    right
    have hm := List.mem_of_find?_eq_some h
    have hf : fitsB r op rd rs1 rs2 imm = true := by simpa using List.find?_some h
    show fitS (B r.name) op rd rs1 rs2 imm = true
    rw [fitS_ref, B_list, ← fit_mem op rd rs1 rs2 imm r hm]
    exact hf

/-- What has one parcel, by one short each, is one. -/
theorem put_one (nm nm' : ByteArray) (i i' : In5) (hf : fitS nm i.op i.rd i.rs1 i.rs2 i.imm = true) (hf' : fitS nm' i'.op i'.rd i'.rs1 i'.rs2 i'.imm = true)
    (h : PutB nm i.op i.rd i.rs1 i.rs2 i.imm = PutB nm' i'.op i'.rd i'.rs1 i'.rs2 i'.imm) : i = i' ∧ nm = nm' := by
  obtain ⟨x, a1, a2, a3, a4, a5, a6, a7⟩ := put_all nm i hf
  obtain ⟨y, b1, b2, b3, b4, b5, b6, b7⟩ := put_all nm' i' hf'
  have e : x = y := by rw [← a1, ← b1]; exact h
  subst e
  refine ⟨by rw [← a5, ← b5], ?_⟩
  rw [a6] at b6
  injection b6 with b6
  have := congrArg (fun a : Array Value => a[0]?) b6
  simp at this
  exact this

theorem put_quarter (nm : ByteArray) (i : In5) (hf : fitS nm i.op i.rd i.rs1 i.rs2 i.imm = true) : (PutB nm i.op i.rd i.rs1 i.rs2 i.imm % 4 == 3) = false := by
  obtain ⟨x, a1, a2, a3, a4, a5, a6, a7⟩ := put_all nm i hf
  rw [a1]
  apply Bool.eq_false_iff.2
  intro hc
  have h3 : x % 4 = 3 := by simpa using hc
  rw [exp_3 x h3] at a5
  subst a5
  exact absurd a7 (by decide)

theorem put_bd (nm : ByteArray) (op rd rs1 rs2 imm : Int) : 0 ≤ PutB nm op rd rs1 rs2 imm ∧ PutB nm op rd rs1 rs2 imm < 65536 := by
  cases hf : fitS nm op rd rs1 rs2 imm
  · unfold PutB; rw [hf, if_neg (by simp)]; exact ⟨by decide, by decide⟩
  · obtain ⟨x, a1, a2, a3, a4, a5, a6, a7⟩ := put_all nm ⟨op, rd, rs1, rs2, imm⟩ hf
    have a1' : PutB nm op rd rs1 rs2 imm = x := a1
    rw [a1']; exact ⟨a3, a4⟩

theorem put_no (nm : ByteArray) (op rd rs1 rs2 imm : Int) (hf : fitS nm op rd rs1 rs2 imm = false) : PutB nm op rd rs1 rs2 imm = 0 ∧ rPutB nm.toList op rd rs1 rs2 imm = 0 := by
  constructor
  · unfold PutB; rw [hf]; rfl
  · rw [fitS_ref] at hf
    unfold rPutB
    rw [hf]
    rfl

theorem fitS_nil (op rd rs1 rs2 imm : Int) : fitS (B []) op rd rs1 rs2 imm = false := by
  rw [fitS_ref, B_list]
  unfold rFitB refB
  rw [show shB.idxOf [] = 27 by decide]
  simp [refL]

end Go.Proofs.Ytppnmaklggkogaa

