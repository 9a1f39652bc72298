/- What a term of TopReduced is in memory: an abstract term (L), its nine cells, and how both are kept while the heap grows. -/
import Derived.Test.YtogdjjleclbgcaaProg
import Derived.Test.YtogdjjleclbgcaaPlain
import Derived.KernelRfl
import Derived.WalkKit
import Derived.Lib.Hide
import Derived.Deep.AppendLies
namespace Go.Proofs.Ytogdjjleclbgcaa
open Go.RowKit

/-- The varying cells of a term. -/
structure Hd where
  op : Int
  name : ByteArray
  num : Int
  A : Option Addr
  n : Nat
  c : Nat

abbrev Hd.val (k : Hd) : Value :=
  .agg #[.int .i64 k.op, .string k.name, .int .i64 k.num, .int .i64 0, .string ⟨#[]⟩, .int .i64 0, .slice none 0 0, .slice none 0 0, .slice k.A k.n k.c]
abbrev Hd.cells (k : Hd) : List Value :=
  [.int .i64 k.op, .string k.name, .int .i64 k.num, .int .i64 0, .string ⟨#[]⟩, .int .i64 0, .slice none 0 0, .slice none 0 0, .slice k.A k.n k.c]
abbrev Hd.obj (k : Hd) : Obj :=
  .cells #[.int .i64 k.op, .string k.name, .int .i64 k.num, .int .i64 0, .string ⟨#[]⟩, .int .i64 0, .slice none 0 0, .slice none 0 0, .slice k.A k.n k.c] 31 (0, 0)

/-- The nine cells of the first element of a row, and of the second one. -/
def At0 (w : World) (a : Nat) (k : Hd) : Prop :=
  w.cell? ⟨a, 0, none⟩ = some (.int .i64 k.op) ∧ w.cell? ⟨a, 1, none⟩ = some (.string k.name) ∧ w.cell? ⟨a, 2, none⟩ = some (.int .i64 k.num) ∧
  w.cell? ⟨a, 3, none⟩ = some (.int .i64 0) ∧ w.cell? ⟨a, 4, none⟩ = some (.string ⟨#[]⟩) ∧ w.cell? ⟨a, 5, none⟩ = some (.int .i64 0) ∧
  w.cell? ⟨a, 6, none⟩ = some (.slice none 0 0) ∧ w.cell? ⟨a, 7, none⟩ = some (.slice none 0 0) ∧ w.cell? ⟨a, 8, none⟩ = some (.slice k.A k.n k.c)
def At9 (w : World) (a : Nat) (k : Hd) : Prop :=
  w.cell? ⟨a, 9, none⟩ = some (.int .i64 k.op) ∧ w.cell? ⟨a, 10, none⟩ = some (.string k.name) ∧ w.cell? ⟨a, 11, none⟩ = some (.int .i64 k.num) ∧
  w.cell? ⟨a, 12, none⟩ = some (.int .i64 0) ∧ w.cell? ⟨a, 13, none⟩ = some (.string ⟨#[]⟩) ∧ w.cell? ⟨a, 14, none⟩ = some (.int .i64 0) ∧
  w.cell? ⟨a, 15, none⟩ = some (.slice none 0 0) ∧ w.cell? ⟨a, 16, none⟩ = some (.slice none 0 0) ∧ w.cell? ⟨a, 17, none⟩ = some (.slice k.A k.n k.c)

def sName : ByteArray := ⟨#[115]⟩
def zName : ByteArray := ⟨#[122]⟩

/-- In a world the cells hold a term, whose rows lie in blocks that are meant. -/
def Rep (w : World) (ok : Nat → Prop) : L → Hd → Prop
  | .free, h => h = ⟨2, sName, 0, none, 0, 0⟩
  | .var, h => h = ⟨3, zName, 3, none, 0, 0⟩
  | .bnd k, h => h = ⟨4, ⟨#[]⟩, k, none, 0, 0⟩
  | .abs b, h => ∃ a c k, h = ⟨5, ⟨#[]⟩, 0, some ⟨a, 0, none⟩, 1, c⟩ ∧ ok a ∧ 1 ≤ c ∧ At0 w a k ∧ Rep w ok b k
  | .app f x, h => ∃ a c k l, h = ⟨6, ⟨#[]⟩, 0, some ⟨a, 0, none⟩, 2, c⟩ ∧ ok a ∧ 2 ≤ c ∧ At0 w a k ∧ At9 w a l ∧ Rep w ok f k ∧ Rep w ok x l

theorem At0.lt {w : World} {a : Nat} {k : Hd} (h : At0 w a k) : a < w.heap.size := World.block_lt_of_cell? w _ h.1
theorem At0.move {w w' : World} {a : Nat} {k : Hd} (h : At0 w a k) (hb : w'.heap[a]? = w.heap[a]?) : At0 w' a k := by
  have e : ∀ j, w'.cell? ⟨a, j, none⟩ = w.cell? ⟨a, j, none⟩ := fun j => World.cell?_of_block (a := ⟨a, j, none⟩) hb
  unfold At0 at h ⊢; simp only [e]; exact h
theorem At9.move {w w' : World} {a : Nat} {k : Hd} (h : At9 w a k) (hb : w'.heap[a]? = w.heap[a]?) : At9 w' a k := by
  have e : ∀ j, w'.cell? ⟨a, j, none⟩ = w.cell? ⟨a, j, none⟩ := fun j => World.cell?_of_block (a := ⟨a, j, none⟩) hb
  unfold At9 at h ⊢; simp only [e]; exact h

theorem Rep.move {w w' : World} {ok : Nat → Prop} {t : L} {k : Hd} (h : Rep w ok t k) (hm : ∀ a, ok a → a < w.heap.size → w'.heap[a]? = w.heap[a]?) : Rep w' ok t k := by
  induction t generalizing k with
  | free => exact h
  | var => exact h
  | bnd n => exact h
  | abs b ih =>
    obtain ⟨a, c, k', rfl, ha, hc, h0, h1⟩ := h
    exact ⟨a, c, k', rfl, ha, hc, h0.move (hm a ha h0.lt), ih h1⟩
  | app f x ih1 ih2 =>
    obtain ⟨a, c, k', l, rfl, ha, hc, h0, h9, h1, h2⟩ := h
    exact ⟨a, c, k', l, rfl, ha, hc, h0.move (hm a ha h0.lt), h9.move (hm a ha h0.lt), ih1 h1, ih2 h2⟩

theorem Rep.imp {w : World} {ok ok' : Nat → Prop} {t : L} {k : Hd} (h : Rep w ok t k) (hm : ∀ a, ok a → a < w.heap.size → ok' a) : Rep w ok' t k := by
  induction t generalizing k with
  | free => exact h
  | var => exact h
  | bnd n => exact h
  | abs b ih =>
    obtain ⟨a, c, k', rfl, ha, hc, h0, h1⟩ := h
    exact ⟨a, c, k', rfl, hm a ha h0.lt, hc, h0, ih h1⟩
  | app f x ih1 ih2 =>
    obtain ⟨a, c, k', l, rfl, ha, hc, h0, h9, h1, h2⟩ := h
    exact ⟨a, c, k', l, rfl, hm a ha h0.lt, hc, h0, h9, ih1 h1, ih2 h2⟩

theorem Rep.below {w w' : World} {ok : Nat → Prop} {t : L} {k : Hd} (h : Rep w ok t k) (hb : Below w.heap.size w w') : Rep w' ok t k := h.move fun a _ hl => hb.block a hl
theorem Rep.grown {w w' : World} {ok : Nat → Prop} {t : L} {k : Hd} {row : Option Nat} (h : Rep w ok t k) (hg : w.grownBy w' row) (hr : ∀ a, ok a → some a ≠ row) : Rep w' ok t k :=
  h.move fun a ha hl => hg.block a hl (hr a ha)
theorem Rep.bound {w : World} {ok : Nat → Prop} {t : L} {k : Hd} (h : Rep w ok t k) : Rep w (fun a => ok a ∧ a < w.heap.size) t k := h.imp fun _ ha hl => ⟨ha, hl⟩

/-- A small number more keeps a block old. -/
theorem lts {a n : Nat} (h : a < n) : a < n + 1 ∧ a < n + 1 + 1 ∧ a < n + 1 + 1 + 1 ∧ a < n + 1 + 1 + 1 + 1 ∧ a < n + 1 + 1 + 1 + 1 + 1 ∧ a < n + 1 + 1 + 1 + 1 + 1 + 1 := by omega

/-- The cells of a block that is known whole. -/
theorem cells_of_block {w : World} {a t : Nat} {v0 v1 v2 v3 v4 v5 v6 v7 v8 : Value} {fr : Nat × Nat} (h : w.heap[a]? = some (.cells #[v0, v1, v2, v3, v4, v5, v6, v7, v8] t fr)) :
    w.cell? ⟨a, 0, none⟩ = some v0 ∧ w.cell? ⟨a, 1, none⟩ = some v1 ∧ w.cell? ⟨a, 2, none⟩ = some v2 ∧ w.cell? ⟨a, 3, none⟩ = some v3 ∧ w.cell? ⟨a, 4, none⟩ = some v4 ∧
    w.cell? ⟨a, 5, none⟩ = some v5 ∧ w.cell? ⟨a, 6, none⟩ = some v6 ∧ w.cell? ⟨a, 7, none⟩ = some v7 ∧ w.cell? ⟨a, 8, none⟩ = some v8 := by
  have e : ∀ j, w.cell? ⟨a, j, none⟩ = #[v0, v1, v2, v3, v4, v5, v6, v7, v8][j]? := fun j => cell_of_row w a j _ t fr h
  exact ⟨e 0, e 1, e 2, e 3, e 4, e 5, e 6, e 7, e 8⟩
theorem free_of_block {w : World} {a t : Nat} {cs : Array Value} (h : w.heap[a]? = some (.cells cs t (0, 0))) : ∀ i, w.frozen? ⟨a, i, none⟩ = false := fun i => frozen_of_row w a i cs t h
theorem at0_of_block {w : World} {a : Nat} {k : Hd} (h : w.heap[a]? = some k.obj) : At0 w a k := cells_of_block h

/-- The rows that an append leaves. -/
theorem at0_of_own {w : World} {base a c n : Nat} {k : Hd} {r : List Value} (h : w.ownsRow base 31 9 (.slice (some ⟨a, 0, none⟩) n c) n (k.cells ++ r)) : At0 w a k := by
  rcases h.2 with ⟨h0, _⟩ | ⟨g, cap, cur, hv, _, hg, _, _, _, ht⟩
  · cases h0
  · cases hv
    have hn : 9 ≤ n * 9 := by have := h.1; simp at this; omega
    have e : ∀ j, j < 9 → w.cell? ⟨a, j, none⟩ = k.cells[j]? := fun j hj => by
      have h1 : (cur.toList.take (n * 9))[j]? = k.cells[j]? := by rw [ht]; exact List.getElem?_append_left (by simp; omega)
      rw [cell_of_row w a j cur 31 _ hg, ← h1, List.getElem?_take, if_pos (by omega)]; simp
    exact ⟨e 0 (by omega), e 1 (by omega), e 2 (by omega), e 3 (by omega), e 4 (by omega), e 5 (by omega), e 6 (by omega), e 7 (by omega), e 8 (by omega)⟩
theorem at9_of_own {w : World} {base a c n : Nat} {k l : Hd} {r : List Value} (h : w.ownsRow base 31 9 (.slice (some ⟨a, 0, none⟩) n c) n (k.cells ++ (l.cells ++ r))) : At9 w a l := by
  rcases h.2 with ⟨h0, _⟩ | ⟨g, cap, cur, hv, _, hg, _, _, _, ht⟩
  · cases h0
  · cases hv
    have hn : 18 ≤ n * 9 := by have := h.1; simp at this; omega
    have e : ∀ j, j < 9 → w.cell? ⟨a, 9 + j, none⟩ = l.cells[j]? := fun j hj => by
      have h1 : (cur.toList.take (n * 9))[9 + j]? = l.cells[j]? := by
        rw [ht, List.getElem?_append_right (by simp)]
        simp only [List.length_cons, List.length_nil]
        rw [show 9 + j - (0 + 1 + 1 + 1 + 1 + 1 + 1 + 1 + 1 + 1) = j by omega]
        exact List.getElem?_append_left (by simp; omega)
      rw [cell_of_row w a (9 + j) cur 31 _ hg, ← h1, List.getElem?_take, if_pos (by omega)]; simp
    exact ⟨e 0 (by omega), e 1 (by omega), e 2 (by omega), e 3 (by omega), e 4 (by omega), e 5 (by omega), e 6 (by omega), e 7 (by omega), e 8 (by omega)⟩
theorem own_cap {w : World} {base e size a c n : Nat} {xs : List Value} (h : w.ownsRow base e size (.slice (some ⟨a, 0, none⟩) n c) n xs) : n ≤ c ∧ base ≤ a ∧ a < w.heap.size := by
  rcases h.2 with ⟨h0, _⟩ | ⟨g, cap, cur, hv, hb, hg, hn, _⟩
  · cases h0
  · cases hv
    exact ⟨hn, hb, (Array.getElem?_eq_some_iff.1 hg).1⟩
theorem own_move {w w' : World} {base e size a c n : Nat} {xs : List Value} (h : w.ownsRow base e size (.slice (some ⟨a, 0, none⟩) n c) n xs) (hb : w'.heap[a]? = w.heap[a]?) : w'.ownsRow base e size (.slice (some ⟨a, 0, none⟩) n c) n xs := by
  refine ⟨h.1, ?_⟩
  rcases h.2 with ⟨h0, _⟩ | ⟨g, cap, cur, hv, hb', hg, r⟩
  · cases h0
  · cases hv
    exact .inr ⟨_, _, cur, rfl, hb', hb.trans hg, r⟩

/-- What a call that makes a term gives: the term, and nothing that was there has turned. -/
def Gives (w : World) (ok : Nat → Prop) (t : L) (e : Ending) (w' : World) : Prop :=
  ∃ k : Hd, e = .returned k.val ∧ Rep w' (fun a => ok a ∨ w.heap.size ≤ a) t k ∧ Below w.heap.size w w'

theorem info31 : (Try.prog.info? 31).map (fun i => (i.zero, i.size, i.bytes)) = some (some (.agg #[.int .i64 0, .string ⟨#[]⟩, .int .i64 0, .int .i64 0, .string ⟨#[]⟩, .int .i64 0, .slice none 0 0, .slice none 0 0, .slice none 0 0]), 9, 136) := by kernel_rfl
theorem under29 : Try.prog.underlying 29 = some (.slice 31) := by kernel_rfl

theorem alloc_below (w : World) (o : Obj) : Below w.heap.size w (w.alloc o) := (Below.refl _ _).alloc (Nat.le_refl _) o
theorem gb_below {a b : World} (h : Below a.heap.size a b) : a.grownBy b none := ⟨h.os, h.tape, h.output, h.size, fun i hi _ => h.block i hi⟩
theorem gb_alloc (w : World) (o : Obj) : w.grownBy (w.alloc o) none := gb_below (alloc_below w o)
theorem gb_drew (w : World) : w.grownBy w.drew none := gb_below ((Below.refl _ _).drew)
theorem gb_trans {a b c : World} {row : Option Nat} (h : a.grownBy b none) (k : b.grownBy c row) : a.grownBy c row :=
  ⟨k.os.trans h.os, k.tape.trans h.tape, k.output.trans h.output, Nat.le_trans h.size k.size, fun i hi hr => (k.block i (Nat.lt_of_lt_of_le hi h.size) hr).trans (h.block i hi (by simp))⟩
theorem gb_set (w : World) (b o : Nat) (v : Value) : w.grownBy (w.setCell ⟨b, o, none⟩ v) (some b) :=
  ⟨rfl, rfl, rfl, by simp [World.setCell], fun i _ hr => Below.heap_setCell w ⟨b, o, none⟩ v i (fun e => hr (by rw [e]))⟩
theorem gb_some {a b : World} {row : Option Nat} (h : a.grownBy b none) : a.grownBy b row := ⟨h.os, h.tape, h.output, h.size, fun i hi _ => h.block i hi (by simp)⟩
/-- Nothing that was there when the function began has turned, if the row is one of its own. -/
theorem below_gb {s : Nat} {w a b : World} {row : Option Nat} (h : Below s w a) (k : a.grownBy b row) (hs : s ≤ a.heap.size) (hr : ∀ r, row = some r → s ≤ r) : Below s w b := h.grown k hs hr

/-- Four new blocks. -/
theorem gen4 {P : Program} {c : Code} {Q : Exit → Act → World → Prop} {a : Act} {w : World} {A B C D : Obj}
    (h : ∀ W, Below w.heap.size w W → W.heap.size = w.heap.size + 4 → W.heap[w.heap.size]? = some A → W.heap[w.heap.size + 1]? = some B → W.heap[w.heap.size + 1 + 1]? = some C → W.heap[w.heap.size + 1 + 1 + 1]? = some D → c.wp P Q a W) :
    c.wp P Q a ((((w.alloc A).alloc B).alloc C).alloc D) := by
  have n1 := Go.heap_alloc_new w A
  have n2 := Go.heap_alloc_new (w.alloc A) B
  have n3 := Go.heap_alloc_new ((w.alloc A).alloc B) C
  have n4 := Go.heap_alloc_new (((w.alloc A).alloc B).alloc C) D
  simp only [World.size_alloc] at n2 n3 n4
  refine h _ ((((alloc_below w A).alloc (by simp) B).alloc (by first | (simp; done) | (simp; omega)) C).alloc (by first | (simp; done) | (simp; omega)) D) (by simp) ?_ ?_ ?_ n4
  · rw [Below.heap_alloc _ _ _ (by first | (simp; done) | (simp; omega)), Below.heap_alloc _ _ _ (by first | (simp; done) | (simp; omega)), Below.heap_alloc _ _ _ (by simp)]; exact n1
  · rw [Below.heap_alloc _ _ _ (by first | (simp; done) | (simp; omega)), Below.heap_alloc _ _ _ (by simp)]; exact n2
  · rw [Below.heap_alloc _ _ _ (by simp)]; exact n3

/-- Nine stores fill a row of nine. -/
theorem nine {w : World} {r t : Nat} {c0 c1 c2 c3 c4 c5 c6 c7 c8 v0 v1 v2 v3 v4 v5 v6 v7 v8 : Value} (h : w.heap[r]? = some (.cells #[c0, c1, c2, c3, c4, c5, c6, c7, c8] t (0, 0))) :
    (((((((((w.setCell ⟨r, 0, none⟩ v0).setCell ⟨r, 1, none⟩ v1).setCell ⟨r, 2, none⟩ v2).setCell ⟨r, 3, none⟩ v3).setCell ⟨r, 4, none⟩ v4).setCell ⟨r, 5, none⟩ v5).setCell ⟨r, 6, none⟩ v6).setCell ⟨r, 7, none⟩ v7).setCell ⟨r, 8, none⟩ v8).heap[r]? = some (.cells #[v0, v1, v2, v3, v4, v5, v6, v7, v8] t (0, 0)) ∧
    w.grownBy (((((((((w.setCell ⟨r, 0, none⟩ v0).setCell ⟨r, 1, none⟩ v1).setCell ⟨r, 2, none⟩ v2).setCell ⟨r, 3, none⟩ v3).setCell ⟨r, 4, none⟩ v4).setCell ⟨r, 5, none⟩ v5).setCell ⟨r, 6, none⟩ v6).setCell ⟨r, 7, none⟩ v7).setCell ⟨r, 8, none⟩ v8) (some r) := by
  have h0 := Go.heap_setCell_same w r 0 _ t v0 h
  simp only [List.setIfInBounds_toArray, List.set_cons_zero, List.set_cons_succ] at h0
  have h1 := Go.heap_setCell_same _ r 1 _ t v1 h0
  simp only [List.setIfInBounds_toArray, List.set_cons_zero, List.set_cons_succ] at h1
  have h2 := Go.heap_setCell_same _ r 2 _ t v2 h1
  simp only [List.setIfInBounds_toArray, List.set_cons_zero, List.set_cons_succ] at h2
  have h3 := Go.heap_setCell_same _ r 3 _ t v3 h2
  simp only [List.setIfInBounds_toArray, List.set_cons_zero, List.set_cons_succ] at h3
  have h4 := Go.heap_setCell_same _ r 4 _ t v4 h3
  simp only [List.setIfInBounds_toArray, List.set_cons_zero, List.set_cons_succ] at h4
  have h5 := Go.heap_setCell_same _ r 5 _ t v5 h4
  simp only [List.setIfInBounds_toArray, List.set_cons_zero, List.set_cons_succ] at h5
  have h6 := Go.heap_setCell_same _ r 6 _ t v6 h5
  simp only [List.setIfInBounds_toArray, List.set_cons_zero, List.set_cons_succ] at h6
  have h7 := Go.heap_setCell_same _ r 7 _ t v7 h6
  simp only [List.setIfInBounds_toArray, List.set_cons_zero, List.set_cons_succ] at h7
  have h8 := Go.heap_setCell_same _ r 8 _ t v8 h7
  simp only [List.setIfInBounds_toArray, List.set_cons_zero, List.set_cons_succ] at h8
  refine ⟨h8, ?_⟩
  have tr : ∀ {a b c : World}, a.grownBy b (some r) → b.grownBy c (some r) → a.grownBy c (some r) := fun h k =>
    ⟨k.os.trans h.os, k.tape.trans h.tape, k.output.trans h.output, Nat.le_trans h.size k.size, fun i hi hr => (k.block i (Nat.lt_of_lt_of_le hi h.size) hr).trans (h.block i hi hr)⟩
  exact tr (tr (tr (tr (tr (tr (tr (tr (gb_set w r 0 v0) (gb_set _ r 1 v1)) (gb_set _ r 2 v2)) (gb_set _ r 3 v3)) (gb_set _ r 4 v4)) (gb_set _ r 5 v5)) (gb_set _ r 6 v6)) (gb_set _ r 7 v7)) (gb_set _ r 8 v8)

theorem size31 : (Try.prog.info? 31).map (·.size) = some 9 := by kernel_rfl

/-- The end of a function that hands back a term. -/
theorem end9 {fn : Func} {R : Ending → World → Prop} {p : Nat} {a : Act} {w : World} {r : Nat} {c0 c1 c2 c3 c4 c5 c6 c7 c8 : Value} (k : Hd) (hres : fn.results = #[.cell p 31])
    (hp : a.tmps.getD p undef = .pointer (some ⟨r, 0, none⟩)) (hd : a.defers = []) (h : w.heap[r]? = some (.cells #[c0, c1, c2, c3, c4, c5, c6, c7, c8] 31 (0, 0)))
    (hR : ∀ F, w.grownBy F (some r) → F.heap[r]? = some k.obj → R (.returned k.val) F) :
    bodyPost Try.prog fn R .ret a (((((((((w.setCell ⟨r, 0, none⟩ (.int .i64 k.op)).setCell ⟨r, 1, none⟩ (.string k.name)).setCell ⟨r, 2, none⟩ (.int .i64 k.num)).setCell ⟨r, 3, none⟩ (.int .i64 0)).setCell ⟨r, 4, none⟩ (.string ⟨#[]⟩)).setCell ⟨r, 5, none⟩ (.int .i64 0)).setCell ⟨r, 6, none⟩ (.slice none 0 0)).setCell ⟨r, 7, none⟩ (.slice none 0 0)).setCell ⟨r, 8, none⟩ (.slice k.A k.n k.c)) := by
  obtain ⟨h1, h2⟩ := nine (v0 := .int .i64 k.op) (v1 := .string k.name) (v2 := .int .i64 k.num) (v3 := .int .i64 0) (v4 := .string ⟨#[]⟩) (v5 := .int .i64 0) (v6 := .slice none 0 0) (v7 := .slice none 0 0) (v8 := .slice k.A k.n k.c) h
  exact ⟨hd, _, results_cell_row hres a.tmps _ r 31 _ _ _ hp h1 Try.underlying31 rfl size31, hR _ h2 h1⟩

theorem _root_.Go.World.grownBy.trans_none {a b c : World} {row : Option Nat} (h : a.grownBy b none) (k : b.grownBy c row) : a.grownBy c row := gb_trans h k

/-- One new block. -/
theorem gen1 {P : Program} {c : Code} {Q : Exit → Act → World → Prop} {a : Act} {w : World} {A : Obj}
    (h : ∀ W, Below w.heap.size w W → W.heap.size = w.heap.size + 1 → W.heap[w.heap.size]? = some A → c.wp P Q a W) : c.wp P Q a (w.alloc A) :=
  h _ (alloc_below w A) (by simp) (Go.heap_alloc_new w A)

/-- The end of a function that hands back a term out of a row that is known. -/
theorem end_row {fn : Func} {R : Ending → World → Prop} {p : Nat} {a : Act} {w : World} {r : Nat} (k : Hd) (hres : fn.results = #[.cell p 31])
    (hp : a.tmps.getD p undef = .pointer (some ⟨r, 0, none⟩)) (hd : a.defers = []) (h : w.heap[r]? = some k.obj) (hR : R (.returned k.val) w) : bodyPost Try.prog fn R .ret a w :=
  ⟨hd, _, results_cell_row hres a.tmps w r 31 _ _ _ hp h Try.underlying31 rfl size31, hR⟩

theorem heap3 (w : World) (A B C : Obj) : (((w.alloc A).alloc B).alloc C).heap[w.heap.size + 1]? = some B := by
  have n2 := Go.heap_alloc_new (w.alloc A) B
  simp only [World.size_alloc] at n2
  rw [Below.heap_alloc _ _ _ (by simp)]; exact n2
theorem heap2 (w : World) (A B : Obj) : ((w.alloc A).alloc B).heap[w.heap.size + 1]? = some B := by
  have n2 := Go.heap_alloc_new (w.alloc A) B
  simpa only [World.size_alloc] using n2
theorem below3 (w : World) (A B C : Obj) : Below w.heap.size w (((w.alloc A).alloc B).alloc C) :=
  ((alloc_below w A).alloc (by simp) B).alloc (by simp; omega) C
theorem below2 (w : World) (A B : Obj) : Below w.heap.size w ((w.alloc A).alloc B) := (alloc_below w A).alloc (by simp) B

/-- What four new blocks leave. -/
theorem four (w : World) (A B C D : Obj) : Below w.heap.size w ((((w.alloc A).alloc B).alloc C).alloc D) ∧ ((((w.alloc A).alloc B).alloc C).alloc D).heap.size = w.heap.size + 4 ∧
    ((((w.alloc A).alloc B).alloc C).alloc D).heap[w.heap.size]? = some A ∧ ((((w.alloc A).alloc B).alloc C).alloc D).heap[w.heap.size + 1]? = some B ∧
    ((((w.alloc A).alloc B).alloc C).alloc D).heap[w.heap.size + 1 + 1]? = some C ∧ ((((w.alloc A).alloc B).alloc C).alloc D).heap[w.heap.size + 1 + 1 + 1]? = some D := by
  have n1 := Go.heap_alloc_new w A
  have n2 := Go.heap_alloc_new (w.alloc A) B
  have n3 := Go.heap_alloc_new ((w.alloc A).alloc B) C
  have n4 := Go.heap_alloc_new (((w.alloc A).alloc B).alloc C) D
  simp only [World.size_alloc] at n2 n3 n4
  refine ⟨(((alloc_below w A).alloc (by simp) B).alloc (by simp; omega) C).alloc (by simp; omega) D, by simp, ?_, ?_, ?_, n4⟩
  · rw [Below.heap_alloc _ _ _ (by simp; omega), Below.heap_alloc _ _ _ (by simp; omega), Below.heap_alloc _ _ _ (by simp)]; exact n1
  · rw [Below.heap_alloc _ _ _ (by first | (simp; done) | (simp; omega)), Below.heap_alloc _ _ _ (by first | (simp; done) | (simp; omega))]; exact n2
  · rw [Below.heap_alloc _ _ _ (by simp)]; exact n3

/-- Five new blocks. -/
theorem gen5 {P : Program} {c : Code} {Q : Exit → Act → World → Prop} {a : Act} {w : World} {A B C D E : Obj}
    (h : ∀ W, Below w.heap.size w W → W.heap.size = w.heap.size + 5 → W.heap[w.heap.size]? = some A → W.heap[w.heap.size + 1]? = some B → W.heap[w.heap.size + 1 + 1]? = some C → W.heap[w.heap.size + 1 + 1 + 1]? = some D → W.heap[w.heap.size + 1 + 1 + 1 + 1]? = some E → c.wp P Q a W) :
    c.wp P Q a (((((w.alloc A).alloc B).alloc C).alloc D).alloc E) := by
  obtain ⟨hb, hs, g0, g1, g2, g3⟩ := four w A B C D
  generalize (((w.alloc A).alloc B).alloc C).alloc D = V at *
  have n := Go.heap_alloc_new V E
  rw [hs] at n
  exact h _ (hb.alloc (by omega) E) (by simp [hs]) ((Below.heap_alloc _ _ _ (by omega)).trans g0) ((Below.heap_alloc _ _ _ (by omega)).trans g1) ((Below.heap_alloc _ _ _ (by omega)).trans g2) ((Below.heap_alloc _ _ _ (by omega)).trans g3) n

theorem heap3c (w : World) (A B C : Obj) : (((w.alloc A).alloc B).alloc C).heap[w.heap.size + 1 + 1]? = some C := by
  have n := Go.heap_alloc_new ((w.alloc A).alloc B) C
  simpa only [World.size_alloc] using n

end Go.Proofs.Ytogdjjleclbgcaa
