/- tileStep: function 11. -/
import Derived.Test.YtogdjjleclbgcaaStore
namespace Go.Proofs.Ytogdjjleclbgcaa
open Go.RowKit

/-- A step was made. -/
def Yes (w : World) (ok : Nat → Prop) (t : L) (e : Ending) (w' : World) : Prop :=
  ∃ k : Hd, e = .returned (.tuple #[k.val, .bool true]) ∧ Rep w' (fun a => ok a ∨ w.heap.size ≤ a) t k ∧ Below w.heap.size w w'
/-- There is none. -/
def No (w : World) (e : Ending) (w' : World) : Prop := ∃ k : Hd, e = .returned (.tuple #[k.val, .bool false]) ∧ Below w.heap.size w w'

theorem yes0 {fn : Func} {R : Ending → World → Prop} {p u : Nat} {a : Act} {w2 : World} {s r x g : Nat} {cs : Array Value} {c0 c1 c2 c3 c4 c5 c6 c7 c8 v8 : Value} (k1 K : Hd) (v : Value) (hres : fn.results = #[.cell p 31, .tmp u])
    (hp : a.tmps.getD p undef = .pointer (some ⟨r, 0, none⟩)) (hu : a.tmps.getD u undef = v) (hd : a.defers = []) (hg : w2.heap[g]? = some (.cells cs 31 (0, 0))) (hcs : 9 ≤ cs.size)
    (hr : w2.heap[r]? = some (.cells #[c0, c1, c2, c3, c4, c5, c6, c7, c8] 31 (0, 0))) (hxg : x ≠ g) (hrg : r ≠ g) (hrx : r ≠ x) (hs : s ≤ r ∧ s ≤ x ∧ s ≤ g ∧ s ≤ w2.heap.size)
    (hR : ∀ F, Below s w2 F → (∀ i, i < w2.heap.size → i ≠ g → i ≠ r → i ≠ x → F.heap[i]? = w2.heap[i]?) → At0 F g k1 → (∀ l, At9 w2 g l → At9 F g l) → R (.returned (.tuple #[K.val, v])) F) :
    bodyPost Try.prog fn R .ret a (((((((((((((((((((w2.setCell ⟨x, 8, none⟩ v8).setCell ⟨g, 0, none⟩ (.int .i64 k1.op)).setCell ⟨g, 1, none⟩ (.string k1.name)).setCell ⟨g, 2, none⟩ (.int .i64 k1.num)).setCell ⟨g, 3, none⟩ (.int .i64 0)).setCell ⟨g, 4, none⟩ (.string ⟨#[]⟩)).setCell ⟨g, 5, none⟩ (.int .i64 0)).setCell ⟨g, 6, none⟩ (.slice none 0 0)).setCell ⟨g, 7, none⟩ (.slice none 0 0)).setCell ⟨g, 8, none⟩ (.slice k1.A k1.n k1.c)).setCell ⟨r, 0, none⟩ (.int .i64 K.op)).setCell ⟨r, 1, none⟩ (.string K.name)).setCell ⟨r, 2, none⟩ (.int .i64 K.num)).setCell ⟨r, 3, none⟩ (.int .i64 0)).setCell ⟨r, 4, none⟩ (.string ⟨#[]⟩)).setCell ⟨r, 5, none⟩ (.int .i64 0)).setCell ⟨r, 6, none⟩ (.slice none 0 0)).setCell ⟨r, 7, none⟩ (.slice none 0 0)).setCell ⟨r, 8, none⟩ (.slice K.A K.n K.c)) := by
  have hg3 := (Go.heap_setCell_other w2 ⟨x, 8, none⟩ g v8 (by simpa using fun h => hxg h.symm)).trans hg
  have hr3 := (Go.heap_setCell_other w2 ⟨x, 8, none⟩ r v8 (by simpa using hrx)).trans hr
  have b3 := gb_set w2 x 8 v8
  have z3 : (w2.setCell ⟨x, 8, none⟩ v8).heap.size = w2.heap.size := by simp [World.setCell]
  have o3 : ∀ l, At9 w2 g l → At9 (w2.setCell ⟨x, 8, none⟩ v8) g l := fun l h => h.move (Go.heap_setCell_other w2 ⟨x, 8, none⟩ g v8 (by simpa using fun h => hxg h.symm))
  generalize w2.setCell ⟨x, 8, none⟩ v8 = W3 at *
  obtain ⟨V, hV, hA, hO, hG, hZ⟩ := store0 k1 hg3 hcs
  rw [hV]
  have hgl : g < V.heap.size := by rw [hZ]; exact (Array.getElem?_eq_some_iff.1 hg3).1
  have hrV := (hG.block r (Array.getElem?_eq_some_iff.1 hr3).1 (by simpa using hrg)).trans hr3
  refine end9t K v hres hp hu hd hrV (fun F hF _ => hR F ?_ ?_ ?_ ?_)
  · exact below_gb (below_gb (below_gb (Below.refl s w2) b3 (by omega) (by simp; omega)) hG (by omega) (by simp; omega)) hF (by omega) (by simp; omega)
  · intro i hi h1 h2 h3
    exact (hF.block i (by omega) (by simpa using h2)).trans ((hG.block i (by omega) (by simpa using h1)).trans (b3.block i hi (by simpa using h3)))
  · exact hA.move (hF.block g hgl (by simpa using fun h => hrg h.symm))
  · exact fun l h => (hO l (o3 l h)).move (hF.block g hgl (by simpa using fun h => hrg h.symm))

theorem yes9 {fn : Func} {R : Ending → World → Prop} {p u : Nat} {a : Act} {w2 : World} {s r x g : Nat} {cs : Array Value} {c0 c1 c2 c3 c4 c5 c6 c7 c8 v8 : Value} (k1 K : Hd) (v : Value) (hres : fn.results = #[.cell p 31, .tmp u])
    (hp : a.tmps.getD p undef = .pointer (some ⟨r, 0, none⟩)) (hu : a.tmps.getD u undef = v) (hd : a.defers = []) (hg : w2.heap[g]? = some (.cells cs 31 (0, 0))) (hcs : 18 ≤ cs.size)
    (hr : w2.heap[r]? = some (.cells #[c0, c1, c2, c3, c4, c5, c6, c7, c8] 31 (0, 0))) (hxg : x ≠ g) (hrg : r ≠ g) (hrx : r ≠ x) (hs : s ≤ r ∧ s ≤ x ∧ s ≤ g ∧ s ≤ w2.heap.size)
    (hR : ∀ F, Below s w2 F → (∀ i, i < w2.heap.size → i ≠ g → i ≠ r → i ≠ x → F.heap[i]? = w2.heap[i]?) → At9 F g k1 → (∀ l, At0 w2 g l → At0 F g l) → R (.returned (.tuple #[K.val, v])) F) :
    bodyPost Try.prog fn R .ret a (((((((((((((((((((w2.setCell ⟨x, 8, none⟩ v8).setCell ⟨g, 9, none⟩ (.int .i64 k1.op)).setCell ⟨g, 10, none⟩ (.string k1.name)).setCell ⟨g, 11, none⟩ (.int .i64 k1.num)).setCell ⟨g, 12, none⟩ (.int .i64 0)).setCell ⟨g, 13, none⟩ (.string ⟨#[]⟩)).setCell ⟨g, 14, none⟩ (.int .i64 0)).setCell ⟨g, 15, none⟩ (.slice none 0 0)).setCell ⟨g, 16, none⟩ (.slice none 0 0)).setCell ⟨g, 17, none⟩ (.slice k1.A k1.n k1.c)).setCell ⟨r, 0, none⟩ (.int .i64 K.op)).setCell ⟨r, 1, none⟩ (.string K.name)).setCell ⟨r, 2, none⟩ (.int .i64 K.num)).setCell ⟨r, 3, none⟩ (.int .i64 0)).setCell ⟨r, 4, none⟩ (.string ⟨#[]⟩)).setCell ⟨r, 5, none⟩ (.int .i64 0)).setCell ⟨r, 6, none⟩ (.slice none 0 0)).setCell ⟨r, 7, none⟩ (.slice none 0 0)).setCell ⟨r, 8, none⟩ (.slice K.A K.n K.c)) := by
  have hg3 := (Go.heap_setCell_other w2 ⟨x, 8, none⟩ g v8 (by simpa using fun h => hxg h.symm)).trans hg
  have hr3 := (Go.heap_setCell_other w2 ⟨x, 8, none⟩ r v8 (by simpa using hrx)).trans hr
  have b3 := gb_set w2 x 8 v8
  have z3 : (w2.setCell ⟨x, 8, none⟩ v8).heap.size = w2.heap.size := by simp [World.setCell]
  have o3 : ∀ l, At0 w2 g l → At0 (w2.setCell ⟨x, 8, none⟩ v8) g l := fun l h => h.move (Go.heap_setCell_other w2 ⟨x, 8, none⟩ g v8 (by simpa using fun h => hxg h.symm))
  generalize w2.setCell ⟨x, 8, none⟩ v8 = W3 at *
  obtain ⟨V, hV, hA, hO, hG, hZ⟩ := store9 k1 hg3 hcs
  rw [hV]
  have hgl : g < V.heap.size := by rw [hZ]; exact (Array.getElem?_eq_some_iff.1 hg3).1
  have hrV := (hG.block r (Array.getElem?_eq_some_iff.1 hr3).1 (by simpa using hrg)).trans hr3
  refine end9t K v hres hp hu hd hrV (fun F hF _ => hR F ?_ ?_ ?_ ?_)
  · exact below_gb (below_gb (below_gb (Below.refl s w2) b3 (by omega) (by simp; omega)) hG (by omega) (by simp; omega)) hF (by omega) (by simp; omega)
  · intro i hi h1 h2 h3
    exact (hF.block i (by omega) (by simpa using h2)).trans ((hG.block i (by omega) (by simpa using h1)).trans (b3.block i hi (by simpa using h3)))
  · exact hA.move (hF.block g hgl (by simpa using fun h => hrg h.symm))
  · exact fun l h => (hO l (o3 l h)).move (hF.block g hgl (by simpa using fun h => hrg h.symm))


theorem heap2a (w : World) (A B : Obj) : ((w.alloc A).alloc B).heap[w.heap.size]? = some A := by
  rw [Below.heap_alloc _ _ _ (by simp)]; exact Go.heap_alloc_new w A

set_option maxRecDepth 100000 in
set_option maxHeartbeats 800000 in
theorem step_leaf (op : Int) (nm : ByteArray) (num : Int) (h6 : (op == 6) = false) (w : World) : Calls Try.prog 11 #[Hd.val ⟨op, nm, num, none, 0, 0⟩] w (No w) := by
  go_enter Try.func11, Try.ntmps11
  go_wp2
  refine wp_loop_rounds 1 ?_
  rw [rounds_succ]
  go_wp2
  exact end_rowt ⟨op, nm, num, none, 0, 0⟩ (.bool false) rfl (by rfl) (by rfl) rfl (heap2 w _ _) ⟨_, rfl, below2 w _ _⟩

set_option maxRecDepth 100000 in
set_option maxHeartbeats 800000 in
theorem step_abs_no (b : L) (w : World) (ok : Nat → Prop) (k : Hd) (hr : Rep w ok (.abs b) k)
    (ih : ∀ (w : World) (ok : Nat → Prop) (k : Hd), Rep w ok b k → Calls Try.prog 11 #[k.val] w (No w)) : Calls Try.prog 11 #[k.val] w (No w) := by
  obtain ⟨a, c, k, rfl, hok, hc, h0, hr⟩ := hr
  have ha := h0.lt
  have HR := Lib.hid (And.intro hr.bound (And.intro h0 (And.intro hok hc)))
  have IH := Lib.hid ih
  clear hr hok hc ih
  obtain ⟨ha1, ha2, ha3, ha4, ha5, ha6⟩ := lts ha
  obtain ⟨c0, c1, c2, c3, c4, c5, c6, c7, c8⟩ := h0
  go_enter Try.func11, Try.ntmps11
  go_wp2
  refine wp_loop_rounds 2 ?_
  rw [rounds_succ]
  go_wp2_with fail
  refine (IH.out _ _ k (HR.out.1.below (below3 w _ _ _))).mono ?_
  rintro e w1 ⟨k1, rfl, hb1⟩
  have q0 := (hb1.block w.heap.size (by simp; omega)).trans (heap3a w _ _ _)
  have q1 := (hb1.block (w.heap.size + 1) (by simp)).trans (heap3 w _ _ _)
  have hs1 : w.heap.size + 3 ≤ w1.heap.size := by have := hb1.size; simp at this; omega
  have hB := (below3 w _ _ _).trans (hb1.mono (by simp; omega))
  have HQ := Lib.hid (And.intro q0 (And.intro q1 hB))
  clear hb1 q0 q1 hB c0 c1 c2 c3 c4 c5 c6 c7 c8
  go_wp2
  rw [rounds_succ]
  refine gen1 ?_
  intro V hbV hsV gV
  have q0 := (hbV.block w.heap.size (by omega)).trans HQ.out.1
  have q1 := (hbV.block (w.heap.size + 1) (by omega)).trans HQ.out.2.1
  have HV := Lib.hid (And.intro q1 hbV)
  have e0 := (cells_of_block q0).1
  have e1 := (cells_of_block q0).2.1
  have e2 := (cells_of_block q0).2.2.1
  have e3 := (cells_of_block q0).2.2.2.1
  have e4 := (cells_of_block q0).2.2.2.2.1
  have e5 := (cells_of_block q0).2.2.2.2.2.1
  have e6 := (cells_of_block q0).2.2.2.2.2.2.1
  have e7 := (cells_of_block q0).2.2.2.2.2.2.2.1
  have e8 := (cells_of_block q0).2.2.2.2.2.2.2.2
  have f0 := (cells_of_block q1).1
  have f1 := (cells_of_block q1).2.1
  have f2 := (cells_of_block q1).2.2.1
  have f3 := (cells_of_block q1).2.2.2.1
  have f4 := (cells_of_block q1).2.2.2.2.1
  have f5 := (cells_of_block q1).2.2.2.2.2.1
  have f6 := (cells_of_block q1).2.2.2.2.2.2.1
  have f7 := (cells_of_block q1).2.2.2.2.2.2.2.1
  have f8 := (cells_of_block q1).2.2.2.2.2.2.2.2
  have fz := free_of_block q1
  have l0 : w.heap.size < V.heap.size := by omega
  have l1 : w.heap.size + 1 < V.heap.size := by omega
  clear q0 q1 hbV gV
  go_wp2
  exact end9t ⟨5, ⟨#[]⟩, 0, some ⟨a, 0, none⟩, 1, c⟩ (.bool false) rfl (by rfl) (by rfl) rfl HV.out.1 (fun F hF _ => ⟨_, rfl, below_gb (HQ.out.2.2.trans (HV.out.2.mono (by omega))) hF (by omega) (by simp)⟩)

set_option maxRecDepth 100000 in
set_option maxHeartbeats 800000 in
theorem step_abs_yes (b b' : L) (w : World) (ok : Nat → Prop) (k : Hd) (hr : Rep w ok (.abs b) k)
    (ih : ∀ (w : World) (ok : Nat → Prop) (k : Hd), Rep w ok b k → Calls Try.prog 11 #[k.val] w (Yes w ok b')) : Calls Try.prog 11 #[k.val] w (Yes w ok (.abs b')) := by
  obtain ⟨a, c, k, rfl, hok, hc, h0, hr⟩ := hr
  have ha := h0.lt
  have HR := Lib.hid (And.intro hr.bound (And.intro h0 (And.intro hok hc)))
  have IH := Lib.hid ih
  clear hr hok hc ih
  obtain ⟨ha1, ha2, ha3, ha4, ha5, ha6⟩ := lts ha
  obtain ⟨c0, c1, c2, c3, c4, c5, c6, c7, c8⟩ := h0
  go_enter Try.func11, Try.ntmps11
  go_wp2
  refine wp_loop_rounds 2 ?_
  rw [rounds_succ]
  go_wp2_with fail
  refine (IH.out _ _ k (HR.out.1.below (below3 w _ _ _))).mono ?_
  rintro e w1 ⟨k1, rfl, hr1, hb1⟩
  have q0 := (hb1.block w.heap.size (by simp; omega)).trans (heap3a w _ _ _)
  have q1 := (hb1.block (w.heap.size + 1) (by simp)).trans (heap3 w _ _ _)
  have hs1 : w.heap.size + 3 ≤ w1.heap.size := by have := hb1.size; simp at this; omega
  have hB := (below3 w _ _ _).trans (hb1.mono (by simp; omega))
  have HQ := Lib.hid (And.intro q0 (And.intro q1 (And.intro hB hr1)))
  have e0 := (cells_of_block q0).1
  have e1 := (cells_of_block q0).2.1
  have e2 := (cells_of_block q0).2.2.1
  have e3 := (cells_of_block q0).2.2.2.1
  have e4 := (cells_of_block q0).2.2.2.2.1
  have e5 := (cells_of_block q0).2.2.2.2.2.1
  have e6 := (cells_of_block q0).2.2.2.2.2.2.1
  have e7 := (cells_of_block q0).2.2.2.2.2.2.2.1
  have e8 := (cells_of_block q0).2.2.2.2.2.2.2.2
  have f0 := (cells_of_block q1).1
  have f1 := (cells_of_block q1).2.1
  have f2 := (cells_of_block q1).2.2.1
  have f3 := (cells_of_block q1).2.2.2.1
  have f4 := (cells_of_block q1).2.2.2.2.1
  have f5 := (cells_of_block q1).2.2.2.2.2.1
  have f6 := (cells_of_block q1).2.2.2.2.2.2.1
  have f7 := (cells_of_block q1).2.2.2.2.2.2.2.1
  have f8 := (cells_of_block q1).2.2.2.2.2.2.2.2
  have fz := free_of_block q1
  have l0 : w.heap.size < w1.heap.size := by omega
  have l1 : w.heap.size + 1 < w1.heap.size := by omega
  clear hb1 hr1 q0 q1 hB c0 c1 c2 c3 c4 c5 c6 c7 c8
  go_wp2_with fail
  have hA := HR.out.2.1.move ((HQ.out.2.2.1).block a ha)
  have hAl : a < w1.heap.size := by omega
  refine (clone1 _ a c k (hA.move ((below2 w1 _ _).block a hAl))).mono ?_
  rintro e w2 ⟨g, gc, rfl, hown, hb2⟩
  have hs2 : w1.heap.size + 2 ≤ w2.heap.size := by have := hb2.size; simp at this; omega
  have q0 := ((below2 w1 _ _).trans (hb2.mono (by simp; omega))).block (w.heap.size) l0 |>.trans HQ.out.1
  have q1 := ((below2 w1 _ _).trans (hb2.mono (by simp; omega))).block (w.heap.size + 1) l1 |>.trans HQ.out.2.1
  have q2 := (hb2.block w1.heap.size (by simp; omega)).trans (heap2a w1 _ _)
  have q3 := (hb2.block (w1.heap.size + 1) (by simp)).trans (heap2 w1 _ _)
  obtain ⟨hcap, hg, hgl⟩ := own_cap hown
  obtain ⟨cs, hcs, hcn⟩ := own_block hown
  have hO := at0_of_own (k := k) (r := []) (by simpa using hown)
  have fg := free_of_block hcs
  have z3 := free_of_block q3
  have f1z := free_of_block q1
  clear e0 e1 e2 e3 e4 e5 e6 e7 e8 f0 f1 f2 f3 f4 f5 f6 f7 f8 fz
  have e0 := (cells_of_block q3).1
  have e1 := (cells_of_block q3).2.1
  have e2 := (cells_of_block q3).2.2.1
  have e3 := (cells_of_block q3).2.2.2.1
  have e4 := (cells_of_block q3).2.2.2.2.1
  have e5 := (cells_of_block q3).2.2.2.2.2.1
  have e6 := (cells_of_block q3).2.2.2.2.2.2.1
  have e7 := (cells_of_block q3).2.2.2.2.2.2.2.1
  have e8 := (cells_of_block q3).2.2.2.2.2.2.2.2
  have f0 := (cells_of_block q1).1
  have f1 := (cells_of_block q1).2.1
  have f2 := (cells_of_block q1).2.2.1
  have f3 := (cells_of_block q1).2.2.2.1
  have f4 := (cells_of_block q1).2.2.2.2.1
  have f5 := (cells_of_block q1).2.2.2.2.2.1
  have f6 := (cells_of_block q1).2.2.2.2.2.2.1
  have f7 := (cells_of_block q1).2.2.2.2.2.2.2.1
  have f8 := (cells_of_block q1).2.2.2.2.2.2.2.2
  have g0 := (cells_of_block q2).1
  have g1 := (cells_of_block q2).2.1
  have g2 := (cells_of_block q2).2.2.1
  have g3 := (cells_of_block q2).2.2.2.1
  have g4 := (cells_of_block q2).2.2.2.2.1
  have g5 := (cells_of_block q2).2.2.2.2.2.1
  have g6 := (cells_of_block q2).2.2.2.2.2.2.1
  have g7 := (cells_of_block q2).2.2.2.2.2.2.2.1
  have g8 := (cells_of_block q2).2.2.2.2.2.2.2.2
  obtain ⟨o0, o1, o2, o3, o4, o5, o6, o7, o8⟩ := hO
  have HW := Lib.hid (And.intro q1 (And.intro q3 (And.intro hb2 (And.intro hcs (And.intro hcn hown)))))
  clear q0 q1 q2 q3 hb2 hcs hcn hown
  have l2 : w1.heap.size < w2.heap.size := by omega
  have l3 : w1.heap.size + 1 < w2.heap.size := by omega
  have l4 : w.heap.size + 1 < w2.heap.size := by omega
  have hgg : w1.heap.size + 1 + 1 ≤ g := by simp at hg; omega
  have hg0 : w.heap.size + 1 + 1 < g := by omega
  clear hg
  go_wp2
  refine yes0 (s := w.heap.size) k1 ⟨5, ⟨#[]⟩, 0, some ⟨g, 0, none⟩, 1, gc⟩ (.bool true) rfl (by rfl) (by rfl) rfl HW.out.2.2.2.1 (by have := HW.out.2.2.2.2.1; omega) HW.out.1 (by omega) (by omega) (by omega) ⟨by omega, by omega, by omega, by omega⟩ ?_
  intro F hF hM hA _
  have hB := HQ.out.2.2.1
  have hb12 := (below2 w1 k1.obj (Hd.obj ⟨5, ⟨#[]⟩, 0, some ⟨a, 0, none⟩, 1, c⟩)).trans (HW.out.2.2.1.mono (by simp; omega))
  refine ⟨_, rfl, ⟨g, gc, k1, rfl, .inr (by omega), hcap, hA, (HQ.out.2.2.2.bound.move ?_).imp ?_⟩, (hB.trans (hb12.mono (by omega))).trans hF⟩
  · rintro z ⟨⟨_, hz⟩ | hz, hz'⟩ _
    · exact (hM z (by omega) (by omega) (by omega) (by omega)).trans (hb12.block z hz')
    · simp at hz
      exact (hM z (by omega) (by omega) (by omega) (by omega)).trans (hb12.block z hz')
  · rintro z ⟨⟨hz, _⟩ | hz, _⟩ _
    · exact .inl hz
    · exact .inr (by simp at hz; omega)

theorem op_ne5 {w : World} {ok : Nat → Prop} {f : L} {k : Hd} (h : Rep w ok f k) (hn : ∀ b, f ≠ .abs b) : (k.op == 5) = false := by
  cases f with
  | free => cases h; rfl
  | var => cases h; rfl
  | bnd n => cases h; rfl
  | abs b => exact absurd rfl (hn b)
  | app f x => obtain ⟨_, _, _, _, rfl, _⟩ := h; rfl

set_option maxRecDepth 100000 in
set_option maxHeartbeats 800000 in
theorem step_app_f (f x f' : L) (hn : ∀ b, f ≠ .abs b) (w : World) (ok : Nat → Prop) (k : Hd) (hr : Rep w ok (.app f x) k)
    (ih : ∀ (w : World) (ok : Nat → Prop) (k : Hd), Rep w ok f k → Calls Try.prog 11 #[k.val] w (Yes w ok f')) : Calls Try.prog 11 #[k.val] w (Yes w ok (.app f' x)) := by
  obtain ⟨a, c, k, l, rfl, hok, hc, h0, h9, hf, hx⟩ := hr
  have ha := h0.lt
  have h5 := op_ne5 hf hn
  have HR := Lib.hid (And.intro hf.bound (And.intro h0 (And.intro h9 (And.intro hx.bound (And.intro hok hc)))))
  have IH := Lib.hid ih
  clear hf hx hok hc ih hn h9
  obtain ⟨ha1, ha2, ha3, ha4, ha5, ha6⟩ := lts ha
  obtain ⟨c0, c1, c2, c3, c4, c5, c6, c7, c8⟩ := h0
  go_enter Try.func11, Try.ntmps11
  go_wp2
  refine wp_loop_rounds 3 ?_
  rw [rounds_succ]
  go_wp2_with fail
  refine (IH.out _ _ k (HR.out.1.below (below3 w _ _ _))).mono ?_
  rintro e w1 ⟨k1, rfl, hr1, hb1⟩
  have q0 := (hb1.block w.heap.size (by simp; omega)).trans (heap3a w _ _ _)
  have q1 := (hb1.block (w.heap.size + 1) (by simp)).trans (heap3 w _ _ _)
  have hs1 : w.heap.size + 3 ≤ w1.heap.size := by have := hb1.size; simp at this; omega
  have hB := (below3 w _ _ _).trans (hb1.mono (by simp; omega))
  have HQ := Lib.hid (And.intro q0 (And.intro q1 (And.intro hB hr1)))
  have e0 := (cells_of_block q0).1
  have e1 := (cells_of_block q0).2.1
  have e2 := (cells_of_block q0).2.2.1
  have e3 := (cells_of_block q0).2.2.2.1
  have e4 := (cells_of_block q0).2.2.2.2.1
  have e5 := (cells_of_block q0).2.2.2.2.2.1
  have e6 := (cells_of_block q0).2.2.2.2.2.2.1
  have e7 := (cells_of_block q0).2.2.2.2.2.2.2.1
  have e8 := (cells_of_block q0).2.2.2.2.2.2.2.2
  have l0 : w.heap.size < w1.heap.size := by omega
  have l1 : w.heap.size + 1 < w1.heap.size := by omega
  clear hb1 hr1 q0 q1 hB c0 c1 c2 c3 c4 c5 c6 c7 c8
  go_wp2_with fail
  have hA := HR.out.2.1.move (HQ.out.2.2.1.block a ha)
  have hA9 := HR.out.2.2.1.move (HQ.out.2.2.1.block a ha)
  have hAl : a < w1.heap.size := by have := HQ.out.2.2.1.size; omega
  refine (clone2 _ a c k l (hA.move ((below2 w1 _ _).block a hAl)) (hA9.move ((below2 w1 _ _).block a hAl))).mono ?_
  rintro e w9 ⟨g, gc, rfl, hown, hb2⟩
  have hs2 : w1.heap.size + 2 ≤ w9.heap.size := by have := hb2.size; simp at this; omega
  have q1 := ((below2 w1 _ _).trans (hb2.mono (by simp; omega))).block (w.heap.size + 1) l1 |>.trans HQ.out.2.1
  have q2 := (hb2.block w1.heap.size (by simp; omega)).trans (heap2a w1 _ _)
  have q3 := (hb2.block (w1.heap.size + 1) (by simp)).trans (heap2 w1 _ _)
  obtain ⟨hcap, hg, hgl⟩ := own_cap hown
  obtain ⟨cs, hcs, hcn⟩ := own_block hown
  have fg := free_of_block hcs
  have z3 := free_of_block q3
  have f1z := free_of_block q1
  clear e0 e1 e2 e3 e4 e5 e6 e7 e8
  have e0 := (cells_of_block q3).1
  have e1 := (cells_of_block q3).2.1
  have e2 := (cells_of_block q3).2.2.1
  have e3 := (cells_of_block q3).2.2.2.1
  have e4 := (cells_of_block q3).2.2.2.2.1
  have e5 := (cells_of_block q3).2.2.2.2.2.1
  have e6 := (cells_of_block q3).2.2.2.2.2.2.1
  have e7 := (cells_of_block q3).2.2.2.2.2.2.2.1
  have e8 := (cells_of_block q3).2.2.2.2.2.2.2.2
  have f0 := (cells_of_block q1).1
  have f1 := (cells_of_block q1).2.1
  have f2 := (cells_of_block q1).2.2.1
  have f3 := (cells_of_block q1).2.2.2.1
  have f4 := (cells_of_block q1).2.2.2.2.1
  have f5 := (cells_of_block q1).2.2.2.2.2.1
  have f6 := (cells_of_block q1).2.2.2.2.2.2.1
  have f7 := (cells_of_block q1).2.2.2.2.2.2.2.1
  have f8 := (cells_of_block q1).2.2.2.2.2.2.2.2
  have g0 := (cells_of_block q2).1
  have g1 := (cells_of_block q2).2.1
  have g2 := (cells_of_block q2).2.2.1
  have g3 := (cells_of_block q2).2.2.2.1
  have g4 := (cells_of_block q2).2.2.2.2.1
  have g5 := (cells_of_block q2).2.2.2.2.2.1
  have g6 := (cells_of_block q2).2.2.2.2.2.2.1
  have g7 := (cells_of_block q2).2.2.2.2.2.2.2.1
  have g8 := (cells_of_block q2).2.2.2.2.2.2.2.2
  have hO := at0_of_own (k := k) (r := l.cells) (by simpa using hown)
  have hO9 := at9_of_own (k := k) (l := l) (r := []) (by simpa using hown)
  have HW := Lib.hid (And.intro q1 (And.intro hO (And.intro hb2 (And.intro hcs (And.intro hcn hO9)))))
  obtain ⟨o0, o1, o2, o3, o4, o5, o6, o7, o8⟩ := hO
  clear q1 q2 q3 hb2 hcs hcn hown hO9
  have l2 : w1.heap.size < w9.heap.size := by omega
  have l3 : w1.heap.size + 1 < w9.heap.size := by omega
  have l4 : w.heap.size + 1 < w9.heap.size := by omega
  have hgg : w1.heap.size + 1 + 1 ≤ g := by simp at hg; omega
  have hg0 : w.heap.size + 1 + 1 < g := by omega
  clear hg
  go_wp2
  refine yes0 (s := w.heap.size) k1 ⟨6, ⟨#[]⟩, 0, some ⟨g, 0, none⟩, 2, gc⟩ (.bool true) rfl (by rfl) (by rfl) rfl HW.out.2.2.2.1 (by have := HW.out.2.2.2.2.1; omega) HW.out.1 (by omega) (by omega) (by omega) ⟨by omega, by omega, by omega, by omega⟩ ?_
  intro F hF hM hA hA'
  have hB := HQ.out.2.2.1
  have hb12 := (below2 w1 k1.obj (Hd.obj ⟨6, ⟨#[]⟩, 0, some ⟨a, 0, none⟩, 2, c⟩)).trans (HW.out.2.2.1.mono (by simp; omega))
  refine ⟨_, rfl, ?_, (hB.trans (hb12.mono (by omega))).trans hF⟩
  exact ⟨g, gc, k1, l, rfl, .inr (by omega), hcap, hA, hA' l HW.out.2.2.2.2.2, (HQ.out.2.2.2.bound.move (by
    rintro z ⟨⟨_, hz⟩ | hz, hz'⟩ _
    · exact (hM z (by omega) (by omega) (by omega) (by omega)).trans (hb12.block z hz')
    · (try simp at hz); exact (hM z (by omega) (by omega) (by omega) (by omega)).trans (hb12.block z hz'))).imp (by
    rintro z ⟨⟨hz, _⟩ | hz, _⟩ _
    · exact .inl hz
    · exact .inr (by (try simp at hz); omega)), (HR.out.2.2.2.1.move (by
    rintro z ⟨_, hz⟩ _
    exact (hM z (by omega) (by omega) (by omega) (by omega)).trans ((hb12.block z (by omega)).trans (hB.block z hz)))).imp (by
    rintro z ⟨hz, _⟩ _
    exact .inl hz)⟩

set_option maxRecDepth 100000 in
set_option maxHeartbeats 800000 in
theorem step_app_x (f x x' : L) (hn : ∀ b, f ≠ .abs b) (w : World) (ok : Nat → Prop) (k : Hd) (hr : Rep w ok (.app f x) k)
    (ih : ∀ (w : World) (ok : Nat → Prop) (k : Hd), Rep w ok f k → Calls Try.prog 11 #[k.val] w (No w)) (ih2 : ∀ (w : World) (ok : Nat → Prop) (k : Hd), Rep w ok x k → Calls Try.prog 11 #[k.val] w (Yes w ok x')) : Calls Try.prog 11 #[k.val] w (Yes w ok (.app f x')) := by
  obtain ⟨a, c, k, l, rfl, hok, hc, h0, h9, hf, hx⟩ := hr
  have ha := h0.lt
  have h5 := op_ne5 hf hn
  have HR := Lib.hid (And.intro hf.bound (And.intro h0 (And.intro h9 (And.intro hx.bound (And.intro hok hc)))))
  have IH := Lib.hid (And.intro ih ih2)
  clear hf hx hok hc ih ih2 hn h9
  obtain ⟨ha1, ha2, ha3, ha4, ha5, ha6⟩ := lts ha
  obtain ⟨c0, c1, c2, c3, c4, c5, c6, c7, c8⟩ := h0
  go_enter Try.func11, Try.ntmps11
  go_wp2
  refine wp_loop_rounds 3 ?_
  rw [rounds_succ]
  go_wp2_with fail
  refine (IH.out.1 _ _ k (HR.out.1.below (below3 w _ _ _))).mono ?_
  rintro e w1 ⟨k1, rfl, hb1⟩
  have q0 := (hb1.block w.heap.size (by simp; omega)).trans (heap3a w _ _ _)
  have q1 := (hb1.block (w.heap.size + 1) (by simp)).trans (heap3 w _ _ _)
  have hs1 : w.heap.size + 3 ≤ w1.heap.size := by have := hb1.size; simp at this; omega
  have hB := (below3 w _ _ _).trans (hb1.mono (by simp; omega))
  have HQ := Lib.hid (And.intro q0 (And.intro q1 hB))
  clear hb1 q0 q1 hB c0 c1 c2 c3 c4 c5 c6 c7 c8
  go_wp2
  rw [rounds_succ]
  refine gen1 ?_
  intro V hbV hsV gV
  have HV := Lib.hid (And.intro ((hbV.block w.heap.size (by omega)).trans HQ.out.1) (And.intro ((hbV.block (w.heap.size + 1) (by omega)).trans HQ.out.2.1) (HQ.out.2.2.trans (hbV.mono (by omega)))))
  clear hbV gV
  have haV : a < V.heap.size := by omega
  have hV9 := HR.out.2.2.1.move (HV.out.2.2.block a ha)
  obtain ⟨n0, n1, n2, n3, n4, n5, n6, n7, n8⟩ := hV9
  go_wp2_with fail
  refine (IH.out.2 _ _ l ((HR.out.2.2.2.1.below HV.out.2.2).below (alloc_below V l.obj))).mono ?_
  rintro e w3 ⟨k2, rfl, hr3, hb3⟩
  have l0 : w.heap.size < w3.heap.size := by have := hb3.size; simp at this; omega
  have l1 : w.heap.size + 1 < w3.heap.size := by have := hb3.size; simp at this; omega
  have hsz : w.heap.size + 4 ≤ w3.heap.size := by have := hb3.size; simp at this; omega
  have hB3 := (alloc_below V l.obj).trans (hb3.mono (by simp))
  have HT := Lib.hid (And.intro ((hB3.block w.heap.size (by omega)).trans HV.out.1) (And.intro ((hB3.block (w.heap.size + 1) (by omega)).trans HV.out.2.1) (And.intro (HV.out.2.2.trans (hB3.mono (by omega))) hr3)))
  clear hb3 hB3 n0 n1 n2 n3 n4 n5 n6 n7 n8
  have q0 := HT.out.1
  have e0 := (cells_of_block q0).1
  have e1 := (cells_of_block q0).2.1
  have e2 := (cells_of_block q0).2.2.1
  have e3 := (cells_of_block q0).2.2.2.1
  have e4 := (cells_of_block q0).2.2.2.2.1
  have e5 := (cells_of_block q0).2.2.2.2.2.1
  have e6 := (cells_of_block q0).2.2.2.2.2.2.1
  have e7 := (cells_of_block q0).2.2.2.2.2.2.2.1
  have e8 := (cells_of_block q0).2.2.2.2.2.2.2.2
  clear hr3 q0
  go_wp2_with fail
  have hA := HR.out.2.1.move (HT.out.2.2.1.block a ha)
  have hA9 := HR.out.2.2.1.move (HT.out.2.2.1.block a ha)
  have hAl : a < w3.heap.size := by have := HT.out.2.2.1.size; omega
  refine (clone2 _ a c k l (hA.move ((below2 w3 _ _).block a hAl)) (hA9.move ((below2 w3 _ _).block a hAl))).mono ?_
  rintro e w9 ⟨g, gc, rfl, hown, hb2⟩
  have hs2 : w3.heap.size + 2 ≤ w9.heap.size := by have := hb2.size; simp at this; omega
  have q1 := ((below2 w3 _ _).trans (hb2.mono (by simp; omega))).block (w.heap.size + 1) l1 |>.trans HT.out.2.1
  have q2 := (hb2.block w3.heap.size (by simp; omega)).trans (heap2a w3 _ _)
  have q3 := (hb2.block (w3.heap.size + 1) (by simp)).trans (heap2 w3 _ _)
  obtain ⟨hcap, hg, hgl⟩ := own_cap hown
  obtain ⟨cs, hcs, hcn⟩ := own_block hown
  have fg := free_of_block hcs
  have z3 := free_of_block q3
  have f1z := free_of_block q1
  clear e0 e1 e2 e3 e4 e5 e6 e7 e8
  have e0 := (cells_of_block q3).1
  have e1 := (cells_of_block q3).2.1
  have e2 := (cells_of_block q3).2.2.1
  have e3 := (cells_of_block q3).2.2.2.1
  have e4 := (cells_of_block q3).2.2.2.2.1
  have e5 := (cells_of_block q3).2.2.2.2.2.1
  have e6 := (cells_of_block q3).2.2.2.2.2.2.1
  have e7 := (cells_of_block q3).2.2.2.2.2.2.2.1
  have e8 := (cells_of_block q3).2.2.2.2.2.2.2.2
  have f0 := (cells_of_block q1).1
  have f1 := (cells_of_block q1).2.1
  have f2 := (cells_of_block q1).2.2.1
  have f3 := (cells_of_block q1).2.2.2.1
  have f4 := (cells_of_block q1).2.2.2.2.1
  have f5 := (cells_of_block q1).2.2.2.2.2.1
  have f6 := (cells_of_block q1).2.2.2.2.2.2.1
  have f7 := (cells_of_block q1).2.2.2.2.2.2.2.1
  have f8 := (cells_of_block q1).2.2.2.2.2.2.2.2
  have g0 := (cells_of_block q2).1
  have g1 := (cells_of_block q2).2.1
  have g2 := (cells_of_block q2).2.2.1
  have g3 := (cells_of_block q2).2.2.2.1
  have g4 := (cells_of_block q2).2.2.2.2.1
  have g5 := (cells_of_block q2).2.2.2.2.2.1
  have g6 := (cells_of_block q2).2.2.2.2.2.2.1
  have g7 := (cells_of_block q2).2.2.2.2.2.2.2.1
  have g8 := (cells_of_block q2).2.2.2.2.2.2.2.2
  have hO := at0_of_own (k := k) (r := l.cells) (by simpa using hown)
  have hO9 := at9_of_own (k := k) (l := l) (r := []) (by simpa using hown)
  have HW := Lib.hid (And.intro q1 (And.intro hO (And.intro hb2 (And.intro hcs (And.intro hcn hO9)))))
  obtain ⟨o0, o1, o2, o3, o4, o5, o6, o7, o8⟩ := hO9
  clear q1 q2 q3 hb2 hcs hcn hown hO
  have l2 : w3.heap.size < w9.heap.size := by omega
  have l3 : w3.heap.size + 1 < w9.heap.size := by omega
  have l4 : w.heap.size + 1 < w9.heap.size := by omega
  have hgg : w3.heap.size + 1 + 1 ≤ g := by simp at hg; omega
  have hg0 : w.heap.size + 1 + 1 < g := by omega
  clear hg
  go_wp2
  refine yes9 (s := w.heap.size) k2 ⟨6, ⟨#[]⟩, 0, some ⟨g, 0, none⟩, 2, gc⟩ (.bool true) rfl (by rfl) (by rfl) rfl HW.out.2.2.2.1 (by have := HW.out.2.2.2.2.1; omega) HW.out.1 (by omega) (by omega) (by omega) ⟨by omega, by omega, by omega, by omega⟩ ?_
  intro F hF hM hA hA'
  have hB := HT.out.2.2.1
  have hb12 := (below2 w3 k2.obj (Hd.obj ⟨6, ⟨#[]⟩, 0, some ⟨a, 0, none⟩, 2, c⟩)).trans (HW.out.2.2.1.mono (by simp; omega))
  refine ⟨_, rfl, ?_, (hB.trans (hb12.mono (by omega))).trans hF⟩
  exact ⟨g, gc, k, k2, rfl, .inr (by omega), hcap, hA' k HW.out.2.1, hA, (HR.out.1.move (by
    rintro z ⟨_, hz⟩ _
    exact (hM z (by omega) (by omega) (by omega) (by omega)).trans ((hb12.block z (by omega)).trans (hB.block z hz)))).imp (by
    rintro z ⟨hz, _⟩ _
    exact .inl hz), (HT.out.2.2.2.bound.move (by
    rintro z ⟨⟨_, hz⟩ | hz, hz'⟩ _
    · exact (hM z (by omega) (by omega) (by omega) (by omega)).trans (hb12.block z hz')
    · (try simp at hz); exact (hM z (by omega) (by omega) (by omega) (by omega)).trans (hb12.block z hz'))).imp (by
    rintro z ⟨⟨hz, _⟩ | hz, _⟩ _
    · exact .inl hz
    · exact .inr (by (try simp at hz); omega))⟩

set_option maxRecDepth 100000 in
set_option maxHeartbeats 800000 in
theorem step_app_no (f x : L) (hn : ∀ b, f ≠ .abs b) (w : World) (ok : Nat → Prop) (k : Hd) (hr : Rep w ok (.app f x) k)
    (ih : ∀ (w : World) (ok : Nat → Prop) (k : Hd), Rep w ok f k → Calls Try.prog 11 #[k.val] w (No w)) (ih2 : ∀ (w : World) (ok : Nat → Prop) (k : Hd), Rep w ok x k → Calls Try.prog 11 #[k.val] w (No w)) : Calls Try.prog 11 #[k.val] w (No w) := by
  obtain ⟨a, c, k, l, rfl, hok, hc, h0, h9, hf, hx⟩ := hr
  have ha := h0.lt
  have h5 := op_ne5 hf hn
  have HR := Lib.hid (And.intro hf.bound (And.intro h0 (And.intro h9 (And.intro hx.bound (And.intro hok hc)))))
  have IH := Lib.hid (And.intro ih ih2)
  clear hf hx hok hc ih ih2 hn h9
  obtain ⟨ha1, ha2, ha3, ha4, ha5, ha6⟩ := lts ha
  obtain ⟨c0, c1, c2, c3, c4, c5, c6, c7, c8⟩ := h0
  go_enter Try.func11, Try.ntmps11
  go_wp2
  refine wp_loop_rounds 3 ?_
  rw [rounds_succ]
  go_wp2_with fail
  refine (IH.out.1 _ _ k (HR.out.1.below (below3 w _ _ _))).mono ?_
  rintro e w1 ⟨k1, rfl, hb1⟩
  have q0 := (hb1.block w.heap.size (by simp; omega)).trans (heap3a w _ _ _)
  have q1 := (hb1.block (w.heap.size + 1) (by simp)).trans (heap3 w _ _ _)
  have hs1 : w.heap.size + 3 ≤ w1.heap.size := by have := hb1.size; simp at this; omega
  have hB := (below3 w _ _ _).trans (hb1.mono (by simp; omega))
  have HQ := Lib.hid (And.intro q0 (And.intro q1 hB))
  clear hb1 q0 q1 hB c0 c1 c2 c3 c4 c5 c6 c7 c8
  go_wp2
  rw [rounds_succ]
  refine gen1 ?_
  intro V hbV hsV gV
  have HV := Lib.hid (And.intro ((hbV.block w.heap.size (by omega)).trans HQ.out.1) (And.intro ((hbV.block (w.heap.size + 1) (by omega)).trans HQ.out.2.1) (HQ.out.2.2.trans (hbV.mono (by omega)))))
  clear hbV gV
  have haV : a < V.heap.size := by omega
  have hV9 := HR.out.2.2.1.move (HV.out.2.2.block a ha)
  obtain ⟨n0, n1, n2, n3, n4, n5, n6, n7, n8⟩ := hV9
  go_wp2_with fail
  refine (IH.out.2 _ _ l ((HR.out.2.2.2.1.below HV.out.2.2).below (alloc_below V l.obj))).mono ?_
  rintro e w3 ⟨k2, rfl, hb3⟩
  have l0 : w.heap.size < w3.heap.size := by have := hb3.size; simp at this; omega
  have l1 : w.heap.size + 1 < w3.heap.size := by have := hb3.size; simp at this; omega
  have hsz : w.heap.size + 4 ≤ w3.heap.size := by have := hb3.size; simp at this; omega
  have hB3 := (alloc_below V l.obj).trans (hb3.mono (by simp))
  have HT := Lib.hid (And.intro ((hB3.block w.heap.size (by omega)).trans HV.out.1) (And.intro ((hB3.block (w.heap.size + 1) (by omega)).trans HV.out.2.1) (And.intro (HV.out.2.2.trans (hB3.mono (by omega))) trivial)))
  clear hb3 hB3 n0 n1 n2 n3 n4 n5 n6 n7 n8
  go_wp2
  rw [rounds_succ]
  refine gen1 ?_
  intro U hbU hsU gU
  have q0 := (hbU.block w.heap.size (by omega)).trans HT.out.1
  have q1 := (hbU.block (w.heap.size + 1) (by omega)).trans HT.out.2.1
  have HU := Lib.hid (And.intro q1 hbU)
  have e0 := (cells_of_block q0).1
  have e1 := (cells_of_block q0).2.1
  have e2 := (cells_of_block q0).2.2.1
  have e3 := (cells_of_block q0).2.2.2.1
  have e4 := (cells_of_block q0).2.2.2.2.1
  have e5 := (cells_of_block q0).2.2.2.2.2.1
  have e6 := (cells_of_block q0).2.2.2.2.2.2.1
  have e7 := (cells_of_block q0).2.2.2.2.2.2.2.1
  have e8 := (cells_of_block q0).2.2.2.2.2.2.2.2
  have f0 := (cells_of_block q1).1
  have f1 := (cells_of_block q1).2.1
  have f2 := (cells_of_block q1).2.2.1
  have f3 := (cells_of_block q1).2.2.2.1
  have f4 := (cells_of_block q1).2.2.2.2.1
  have f5 := (cells_of_block q1).2.2.2.2.2.1
  have f6 := (cells_of_block q1).2.2.2.2.2.2.1
  have f7 := (cells_of_block q1).2.2.2.2.2.2.2.1
  have f8 := (cells_of_block q1).2.2.2.2.2.2.2.2
  have fz := free_of_block q1
  have l2 : w.heap.size < U.heap.size := by omega
  have l3 : w.heap.size + 1 < U.heap.size := by omega
  clear q0 q1 hbU gU
  go_wp2
  exact end9t ⟨6, ⟨#[]⟩, 0, some ⟨a, 0, none⟩, 2, c⟩ (.bool false) rfl (by rfl) (by rfl) rfl HU.out.1 (fun F hF _ => ⟨_, rfl, below_gb (HT.out.2.2.1.trans (HU.out.2.mono (by omega))) hF (by omega) (by simp)⟩)

end Go.Proofs.Ytogdjjleclbgcaa
