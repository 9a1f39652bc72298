/- Rows that are known whole; chains of new blocks. -/
import Derived.Test.YtogdjjleclbgcaaBase
namespace Go.Proofs.Ytogdjjleclbgcaa
open Go.RowKit

abbrev Hd.obj2 (k l : Hd) : Obj :=
  .cells #[.int .i64 k.op, .string k.name, .int .i64 k.num, .int .i64 0, .string ⟨#[]⟩, .int .i64 0, .slice none 0 0, .slice none 0 0, .slice k.A k.n k.c,
    .int .i64 l.op, .string l.name, .int .i64 l.num, .int .i64 0, .string ⟨#[]⟩, .int .i64 0, .slice none 0 0, .slice none 0 0, .slice l.A l.n l.c] 31 (0, 0)

theorem at_of_obj2 {w : World} {a : Nat} {k l : Hd} (h : w.heap[a]? = some (k.obj2 l)) : At0 w a k ∧ At9 w a l := by
  have e : ∀ j, w.cell? ⟨a, j, none⟩ = #[.int .i64 k.op, .string k.name, .int .i64 k.num, .int .i64 0, .string ⟨#[]⟩, .int .i64 0, .slice none 0 0, .slice none 0 0, .slice k.A k.n k.c,
    .int .i64 l.op, .string l.name, .int .i64 l.num, .int .i64 0, .string ⟨#[]⟩, .int .i64 0, .slice none 0 0, .slice none 0 0, .slice l.A l.n l.c][j]? := fun j => cell_of_row w a j _ 31 (0, 0) h
  exact ⟨⟨e 0, e 1, e 2, e 3, e 4, e 5, e 6, e 7, e 8⟩, ⟨e 9, e 10, e 11, e 12, e 13, e 14, e 15, e 16, e 17⟩⟩

theorem rep_app {w : World} {ok : Nat → Prop} {g c : Nat} {f x : L} {k l : Hd} (h : w.heap[g]? = some (k.obj2 l)) (hc : 2 ≤ c) (hg : ok g) (hf : Rep w ok f k) (hx : Rep w ok x l) : Rep w ok (.app f x) ⟨6, ⟨#[]⟩, 0, some ⟨g, 0, none⟩, 2, c⟩ :=
  ⟨g, c, k, l, rfl, hg, hc, (at_of_obj2 h).1, (at_of_obj2 h).2, hf, hx⟩
theorem rep_abs {w : World} {ok : Nat → Prop} {g c : Nat} {f : L} {k : Hd} (h : w.heap[g]? = some k.obj) (hc : 1 ≤ c) (hg : ok g) (hf : Rep w ok f k) : Rep w ok (.abs f) ⟨5, ⟨#[]⟩, 0, some ⟨g, 0, none⟩, 1, c⟩ :=
  ⟨g, c, k, rfl, hg, hc, at0_of_block h, hf⟩

theorem new_at (w : World) (o : Obj) (i : Nat) (h : i = w.heap.size) : (w.alloc o).heap[i]? = some o := by subst h; exact Go.heap_alloc_new w o
theorem below4 (w : World) (A B C D : Obj) : Below w.heap.size w ((((w.alloc A).alloc B).alloc C).alloc D) := (below3 w A B C).alloc (by simp; omega) D
theorem below5 (w : World) (A B C D E : Obj) : Below w.heap.size w (((((w.alloc A).alloc B).alloc C).alloc D).alloc E) := (below4 w A B C D).alloc (by simp; omega) E
theorem below6 (w : World) (A B C D E F : Obj) : Below w.heap.size w ((((((w.alloc A).alloc B).alloc C).alloc D).alloc E).alloc F) := (below5 w A B C D E).alloc (by simp; omega) F

theorem Rep.or {w w' : World} {ok : Nat → Prop} {s : Nat} {t : L} {k : Hd} (h : Rep w ok t k) (hb : Below w.heap.size w w') : Rep w' (fun a => ok a ∨ s ≤ a) t k := (h.below hb).imp fun _ h _ => .inl h

theorem nineE {w : World} {r t : Nat} {c0 c1 c2 c3 c4 c5 c6 c7 c8 : Value} (v0 v1 v2 v3 v4 v5 v6 v7 v8 : Value) (h : w.heap[r]? = some (.cells #[c0, c1, c2, c3, c4, c5, c6, c7, c8] t (0, 0))) :
    ∃ V, (((((((((w.setCell ⟨r, 0, none⟩ v0).setCell ⟨r, 1, none⟩ v1).setCell ⟨r, 2, none⟩ v2).setCell ⟨r, 3, none⟩ v3).setCell ⟨r, 4, none⟩ v4).setCell ⟨r, 5, none⟩ v5).setCell ⟨r, 6, none⟩ v6).setCell ⟨r, 7, none⟩ v7).setCell ⟨r, 8, none⟩ v8) = V ∧ V.heap[r]? = some (.cells #[v0, v1, v2, v3, v4, v5, v6, v7, v8] t (0, 0)) ∧ w.grownBy V (some r) ∧ V.heap.size = w.heap.size :=
  ⟨_, rfl, (nine h).1, (nine h).2, by simp [World.setCell]⟩

end Go.Proofs.Ytogdjjleclbgcaa
