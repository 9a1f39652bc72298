/- An element of a row of terms is stored. -/
import Derived.Test.YtogdjjleclbgcaaClone
import Derived.Test.YtogdjjleclbgcaaEnds
namespace Go.Proofs.Ytogdjjleclbgcaa
open Go.RowKit

theorem heap_set (w : World) (r i t : Nat) (cs : Array Value) (v : Value) (h : w.heap[r]? = some (.cells cs t (0, 0))) : (w.setCell ⟨r, i, none⟩ v).heap[r]? = some (.cells (cs.setIfInBounds i v) t (0, 0)) := Go.heap_setCell_same w r i cs t v h

theorem store0 {w : World} {r : Nat} {cs : Array Value} (k : Hd) (h : w.heap[r]? = some (.cells cs 31 (0, 0))) (hs : 9 ≤ cs.size) :
    ∃ V, (((((((((w.setCell ⟨r, 0, none⟩ (.int .i64 k.op)).setCell ⟨r, 1, none⟩ (.string k.name)).setCell ⟨r, 2, none⟩ (.int .i64 k.num)).setCell ⟨r, 3, none⟩ (.int .i64 0)).setCell ⟨r, 4, none⟩ (.string ⟨#[]⟩)).setCell ⟨r, 5, none⟩ (.int .i64 0)).setCell ⟨r, 6, none⟩ (.slice none 0 0)).setCell ⟨r, 7, none⟩ (.slice none 0 0)).setCell ⟨r, 8, none⟩ (.slice k.A k.n k.c)) = V ∧
      At0 V r k ∧ (∀ l, At9 w r l → At9 V r l) ∧ w.grownBy V (some r) ∧ V.heap.size = w.heap.size := by
  have h0 := heap_set w r 0 _ _ (.int .i64 k.op) h
  have h1 := heap_set _ r 1 _ _ (.string k.name) h0
  have h2 := heap_set _ r 2 _ _ (.int .i64 k.num) h1
  have h3 := heap_set _ r 3 _ _ (.int .i64 0) h2
  have h4 := heap_set _ r 4 _ _ (.string ⟨#[]⟩) h3
  have h5 := heap_set _ r 5 _ _ (.int .i64 0) h4
  have h6 := heap_set _ r 6 _ _ (.slice none 0 0) h5
  have h7 := heap_set _ r 7 _ _ (.slice none 0 0) h6
  have h8 := heap_set _ r 8 _ _ (.slice k.A k.n k.c) h7
  refine ⟨_, rfl, ?_, fun l hl => ?_, ?_, by simp [World.setCell]⟩
  · have e : ∀ j, _ = _ := fun j => cell_of_row _ r j _ 31 (0, 0) h8
    unfold At0
    simp only [e]
    have z : ∀ j, j < 9 → j < cs.size := fun j hj => by omega
    simp only [Array.getElem?_setIfInBounds, Array.size_setIfInBounds, z 0 (by omega), z 1 (by omega), z 2 (by omega), z 3 (by omega), z 4 (by omega), z 5 (by omega), z 6 (by omega), z 7 (by omega), z 8 (by omega)]
    simp
  · have e : ∀ j, _ = _ := fun j => cell_of_row _ r j _ 31 (0, 0) h8
    have e' : ∀ j, _ = _ := fun j => cell_of_row w r j _ 31 (0, 0) h
    unfold At9 at hl ⊢
    simp only [e'] at hl
    simp only [e]
    simpa [Array.getElem?_setIfInBounds] using hl
  · exact tr_row (tr_row (tr_row (tr_row (tr_row (tr_row (tr_row (tr_row (gb_set w r 0 _) (gb_set _ r 1 _)) (gb_set _ r 2 _)) (gb_set _ r 3 _)) (gb_set _ r 4 _)) (gb_set _ r 5 _)) (gb_set _ r 6 _)) (gb_set _ r 7 _)) (gb_set _ r 8 _)

theorem store9 {w : World} {r : Nat} {cs : Array Value} (k : Hd) (h : w.heap[r]? = some (.cells cs 31 (0, 0))) (hs : 18 ≤ cs.size) :
    ∃ V, (((((((((w.setCell ⟨r, 9, none⟩ (.int .i64 k.op)).setCell ⟨r, 10, none⟩ (.string k.name)).setCell ⟨r, 11, none⟩ (.int .i64 k.num)).setCell ⟨r, 12, none⟩ (.int .i64 0)).setCell ⟨r, 13, none⟩ (.string ⟨#[]⟩)).setCell ⟨r, 14, none⟩ (.int .i64 0)).setCell ⟨r, 15, none⟩ (.slice none 0 0)).setCell ⟨r, 16, none⟩ (.slice none 0 0)).setCell ⟨r, 17, none⟩ (.slice k.A k.n k.c)) = V ∧
      At9 V r k ∧ (∀ l, At0 w r l → At0 V r l) ∧ w.grownBy V (some r) ∧ V.heap.size = w.heap.size := by
  have h0 := heap_set w r 9 _ _ (.int .i64 k.op) h
  have h1 := heap_set _ r 10 _ _ (.string k.name) h0
  have h2 := heap_set _ r 11 _ _ (.int .i64 k.num) h1
  have h3 := heap_set _ r 12 _ _ (.int .i64 0) h2
  have h4 := heap_set _ r 13 _ _ (.string ⟨#[]⟩) h3
  have h5 := heap_set _ r 14 _ _ (.int .i64 0) h4
  have h6 := heap_set _ r 15 _ _ (.slice none 0 0) h5
  have h7 := heap_set _ r 16 _ _ (.slice none 0 0) h6
  have h8 := heap_set _ r 17 _ _ (.slice k.A k.n k.c) h7
  refine ⟨_, rfl, ?_, fun l hl => ?_, ?_, by simp [World.setCell]⟩
  · have e : ∀ j, _ = _ := fun j => cell_of_row _ r j _ 31 (0, 0) h8
    unfold At9
    simp only [e]
    simp [Array.getElem?_setIfInBounds]
    omega
  · have e : ∀ j, _ = _ := fun j => cell_of_row _ r j _ 31 (0, 0) h8
    have e' : ∀ j, _ = _ := fun j => cell_of_row w r j _ 31 (0, 0) h
    unfold At0 at hl ⊢
    simp only [e'] at hl
    simp only [e]
    simpa [Array.getElem?_setIfInBounds] using hl
  · exact tr_row (tr_row (tr_row (tr_row (tr_row (tr_row (tr_row (tr_row (gb_set w r 9 _) (gb_set _ r 10 _)) (gb_set _ r 11 _)) (gb_set _ r 12 _)) (gb_set _ r 13 _)) (gb_set _ r 14 _)) (gb_set _ r 15 _)) (gb_set _ r 16 _)) (gb_set _ r 17 _)

/-- A row that is owned, as a block. -/
theorem own_block {w : World} {base a c n : Nat} {xs : List Value} (h : w.ownsRow base 31 9 (.slice (some ⟨a, 0, none⟩) n c) n xs) : ∃ cs, w.heap[a]? = some (.cells cs 31 (0, 0)) ∧ n * 9 ≤ cs.size := by
  rcases h.2 with ⟨h0, _⟩ | ⟨g, cap, cur, hv, hb, hg, hn, _, hc, _⟩
  · cases h0
  · cases hv
    exact ⟨cur, hg, by omega⟩

end Go.Proofs.Ytogdjjleclbgcaa
