/- Contracts of package press: laws for its rows. -/
import Derived.Test.YtdgmdkkockbkjaaGreatDoorPressb
namespace Go.Proofs.YtdgmdkkockbkjaaGreatDoor
open Go.RowKit
set_option linter.unusedVariables false
set_option linter.unusedSimpArgs false

def PR0 : PR := ⟨[], 0, 0, 0, 0, 0, 0, 0, 0, []⟩

def findP (s : ByteArray) : Option PR := rowsL.find? (fun r => r.name == s.toList)

def findR (s : ByteArray) : PR := (findP s).getD PR0

theorem find_at (s : ByteArray) (k : Nat) (r : PR) (hr : rowsL[k]? = some r) (hp : (r.name == s.toList) = true) (hno : ∀ j r', j < k → rowsL[j]? = some r' → (r'.name == s.toList) = false) : findP s = some r := by
  obtain ⟨hk, e⟩ := List.getElem?_eq_some_iff.1 hr
  unfold findP
  rw [List.find?_eq_some_iff_getElem]
  refine ⟨hp, k, hk, e, fun j hj => ?_⟩
  rw [hno j _ hj (List.getElem?_eq_getElem (by omega))]
  rfl

theorem find_no (s : ByteArray) (hno : ∀ j r', j < 27 → rowsL[j]? = some r' → (r'.name == s.toList) = false) : findP s = none := by
  unfold findP
  rw [List.find?_eq_none]
  intro r hr
  obtain ⟨j, hj, e⟩ := List.getElem_of_mem hr
  rw [hno j r hj (by rw [List.getElem?_eq_getElem hj, e])]
  simp

theorem prow_size : (Tryz.prog.info? 94).map (·.size) = some 10 := by kernel_rfl

theorem prow_one (r : PR) : (rowC r).toArray.all (·.oneCell') = true := by simp [rowC, Value.oneCell']

theorem prow_set (r : PR) (w : World) : (w.alloc (.cells #[.string (B []), .int .i64 0, .int .i64 0, .int .i64 0, .int .i64 0, .int .i32 0, .int .i32 0, .int .i32 0, .int .i32 0, .string (B [])] 94)).setCells w.heap.size 0 (rowC r).toArray.toList = w.alloc (.cells (rowC r).toArray 94) := by
  simp [World.setCells, rowC, go_sem]

theorem prow_there (w : World) : (w.alloc (.cells #[.string (B []), .int .i64 0, .int .i64 0, .int .i64 0, .int .i64 0, .int .i32 0, .int .i32 0, .int .i32 0, .int .i32 0, .string (B [])] 94)).there w.heap.size 0 10 := there_new (Nx.refl _) 10 rfl

theorem row_at (k : Nat) (h : k < 27) : ∃ r, rowsL[k]? = some r := ⟨_, List.getElem?_eq_getElem h⟩

theorem row_ok (k : Nat) (r : PR) (h : rowsL[k]? = some r) : r.ok := rows_ok r (List.mem_of_getElem? h)

theorem results_ct {P : Program} {fn : Func} {tmps : Array Value} {w : World} {a b : Tmp} {t : TypeId} {p : Addr} {v x : Value} (hr : fn.results = #[.cell a t, .tmp b]) (ha : tmps.getD a undef = .pointer (some p)) (hb : tmps.getD b undef = x) (hl : (loadVar t p).run P w = .ok v w) : (results fn tmps).run P w = .ok (.tuple #[v, x]) w := by
  unfold results
  rw [hr]
  generalize hm : loadVar t p = m at hl
  have ha' : tmps[a]?.getD undef = .pointer (some p) := by simpa using ha
  have hb' : tmps[b]?.getD undef = x := by simpa using hb
  simp [ha', hb', hm, hl, Sem.run_bind, Sem.run_pure, asAddr]

theorem prows_some (w : World) : Calls Tryz.prog 54 #[] w fun e w' => ∃ g, e = .returned (.slice (some ⟨g, 0, none⟩) 27 27) ∧ RowsP w' g ∧ Nx w w' :=
  (prows_any w).mono fun e w' ⟨h1, h2, h3⟩ => ⟨w.heap.size, h1, h2, h3⟩

theorem range_new (w : World) (r : PR) : (w.alloc (.cells (rowC r).toArray 94)).rangeAt w.heap.size 0 (rowC r) := by
  intro j v hv
  have : (w.alloc (.cells (rowC r).toArray 94)).cell? ⟨w.heap.size, 0 + j, none⟩ = (rowC r).toArray[0 + j]? := by simp
  rw [this, List.getElem?_toArray, Nat.zero_add]
  exact hv

end Go.Proofs.YtdgmdkkockbkjaaGreatDoor
