/- How a function ends that hands back a term and something else. -/
import Derived.Test.YtogdjjleclbgcaaMore
namespace Go.Proofs.Ytogdjjleclbgcaa
open Go.RowKit

theorem tr_row {a b c : World} {row : Option Nat} (h : a.grownBy b row) (k : b.grownBy c row) : a.grownBy c row :=
  ⟨k.os.trans h.os, k.tape.trans h.tape, k.output.trans h.output, Nat.le_trans h.size k.size, fun i hi hr => (k.block i (Nat.lt_of_lt_of_le hi h.size) hr).trans (h.block i hi hr)⟩

/-- A row of one's own may be written besides. -/
theorem own_row {w a b : World} {row : Option Nat} {r : Nat} (h : w.grownBy a row) (k : a.grownBy b (some r)) (hr : w.heap.size ≤ r) : w.grownBy b row :=
  ⟨k.os.trans h.os, k.tape.trans h.tape, k.output.trans h.output, Nat.le_trans h.size k.size, fun i hi hn => (k.block i (Nat.lt_of_lt_of_le hi h.size) (by simp; omega)).trans (h.block i hi hn)⟩

/-- The end of a function that hands back a term and something else. -/
theorem end9t {fn : Func} {R : Ending → World → Prop} {p u : Nat} {a : Act} {w : World} {r : Nat} {c0 c1 c2 c3 c4 c5 c6 c7 c8 : Value} (k : Hd) (v : Value) (hres : fn.results = #[.cell p 31, .tmp u])
    (hp : a.tmps.getD p undef = .pointer (some ⟨r, 0, none⟩)) (hu : a.tmps.getD u undef = v) (hd : a.defers = []) (h : w.heap[r]? = some (.cells #[c0, c1, c2, c3, c4, c5, c6, c7, c8] 31 (0, 0)))
    (hR : ∀ F, w.grownBy F (some r) → F.heap[r]? = some k.obj → R (.returned (.tuple #[k.val, v])) F) :
    bodyPost Try.prog fn R .ret a (((((((((w.setCell ⟨r, 0, none⟩ (.int .i64 k.op)).setCell ⟨r, 1, none⟩ (.string k.name)).setCell ⟨r, 2, none⟩ (.int .i64 k.num)).setCell ⟨r, 3, none⟩ (.int .i64 0)).setCell ⟨r, 4, none⟩ (.string ⟨#[]⟩)).setCell ⟨r, 5, none⟩ (.int .i64 0)).setCell ⟨r, 6, none⟩ (.slice none 0 0)).setCell ⟨r, 7, none⟩ (.slice none 0 0)).setCell ⟨r, 8, none⟩ (.slice k.A k.n k.c)) := by
  obtain ⟨V, hV, h1, h2, _⟩ := nineE (.int .i64 k.op) (.string k.name) (.int .i64 k.num) (.int .i64 0) (.string ⟨#[]⟩) (.int .i64 0) (.slice none 0 0) (.slice none 0 0) (.slice k.A k.n k.c) h
  rw [hV]
  refine ⟨hd, .tuple #[k.val, v], ?_, hR _ h2 h1⟩
  rw [results_cell_tmp hres, hp, hu]
  simp [asAddr, run_loadVar_row V r 31 31 _ _ _ h1 Try.underlying31 rfl size31]
theorem end_rowt {fn : Func} {R : Ending → World → Prop} {p u : Nat} {a : Act} {w : World} {r : Nat} (k : Hd) (v : Value) (hres : fn.results = #[.cell p 31, .tmp u])
    (hp : a.tmps.getD p undef = .pointer (some ⟨r, 0, none⟩)) (hu : a.tmps.getD u undef = v) (hd : a.defers = []) (h : w.heap[r]? = some k.obj) (hR : R (.returned (.tuple #[k.val, v])) w) : bodyPost Try.prog fn R .ret a w := by
  refine ⟨hd, .tuple #[k.val, v], ?_, hR⟩
  rw [results_cell_tmp hres, hp, hu]
  simp [asAddr, run_loadVar_row w r 31 31 _ _ _ h Try.underlying31 rfl size31]

theorem heap3a (w : World) (A B C : Obj) : (((w.alloc A).alloc B).alloc C).heap[w.heap.size]? = some A := by
  rw [Below.heap_alloc _ _ _ (by simp; omega), Below.heap_alloc _ _ _ (by simp)]; exact Go.heap_alloc_new w A

end Go.Proofs.Ytogdjjleclbgcaa
