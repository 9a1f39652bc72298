/- tileStep hands back the term itself if there is no step. -/
import Derived.Test.YtogdjjleclbgcaaStepAll
namespace Go.Proofs.Ytogdjjleclbgcaa
open Go.RowKit

/-- There is no step: the term itself. -/
def Same (w : World) (k : Hd) (e : Ending) (w' : World) : Prop := e = .returned (.tuple #[k.val, .bool false]) ∧ Below w.heap.size w w'

set_option maxRecDepth 100000 in
set_option maxHeartbeats 800000 in
theorem same_leaf (op : Int) (nm : ByteArray) (num : Int) (h6 : (op == 6) = false) (w : World) : Calls Try.prog 11 #[Hd.val ⟨op, nm, num, none, 0, 0⟩] w (Same w ⟨op, nm, num, none, 0, 0⟩) := by
  go_enter Try.func11, Try.ntmps11
  go_wp2
  refine wp_loop_rounds 1 ?_
  rw [rounds_succ]
  go_wp2
  exact end_rowt ⟨op, nm, num, none, 0, 0⟩ (.bool false) rfl (by rfl) (by rfl) rfl (heap2 w _ _) ⟨rfl, below2 w _ _⟩

set_option maxRecDepth 100000 in
set_option maxHeartbeats 800000 in
theorem same_abs_no (b : L) (w : World) (ok : Nat → Prop) (k : Hd) (hr : Rep w ok (.abs b) k)
    (ih : ∀ (w : World) (ok : Nat → Prop) (k : Hd), Rep w ok b k → Calls Try.prog 11 #[k.val] w (No w)) : Calls Try.prog 11 #[k.val] w (Same w k) := by
  obtain ⟨a, c, k, rfl, hok, hc, h0, hr⟩ := hr
  have ha := h0.lt
  have HR := Lib.hid (And.intro hr.bound (And.intro h0 (And.intro hok hc)))
  have IH := Lib.hid ih
  clear hr hok hc ih
  obtain ⟨ha1, ha2, ha3, ha4, ha5, ha6⟩ := lts ha
  obtain ⟨c0, c1, c2, c3, c4, c5, c6, c7, c8⟩ := h0
  go_enter Try.func11, Try.ntmps11
  go_wp2
  refine wp_loop_rounds 2 ?_
  rw [rounds_succ]
  go_wp2_with fail
  refine (IH.out _ _ k (HR.out.1.below (below3 w _ _ _))).mono ?_
  rintro e w1 ⟨k1, rfl, hb1⟩
  have q0 := (hb1.block w.heap.size (by simp; omega)).trans (heap3a w _ _ _)
  have q1 := (hb1.block (w.heap.size + 1) (by simp)).trans (heap3 w _ _ _)
  have hs1 : w.heap.size + 3 ≤ w1.heap.size := by have := hb1.size; simp at this; omega
  have hB := (below3 w _ _ _).trans (hb1.mono (by simp; omega))
  have HQ := Lib.hid (And.intro q0 (And.intro q1 hB))
  clear hb1 q0 q1 hB c0 c1 c2 c3 c4 c5 c6 c7 c8
  go_wp2
  rw [rounds_succ]
  refine gen1 ?_
  intro V hbV hsV gV
  have q0 := (hbV.block w.heap.size (by omega)).trans HQ.out.1
  have q1 := (hbV.block (w.heap.size + 1) (by omega)).trans HQ.out.2.1
  have HV := Lib.hid (And.intro q1 hbV)
  have e0 := (cells_of_block q0).1
  have e1 := (cells_of_block q0).2.1
  have e2 := (cells_of_block q0).2.2.1
  have e3 := (cells_of_block q0).2.2.2.1
  have e4 := (cells_of_block q0).2.2.2.2.1
  have e5 := (cells_of_block q0).2.2.2.2.2.1
  have e6 := (cells_of_block q0).2.2.2.2.2.2.1
  have e7 := (cells_of_block q0).2.2.2.2.2.2.2.1
  have e8 := (cells_of_block q0).2.2.2.2.2.2.2.2
  have f0 := (cells_of_block q1).1
  have f1 := (cells_of_block q1).2.1
  have f2 := (cells_of_block q1).2.2.1
  have f3 := (cells_of_block q1).2.2.2.1
  have f4 := (cells_of_block q1).2.2.2.2.1
  have f5 := (cells_of_block q1).2.2.2.2.2.1
  have f6 := (cells_of_block q1).2.2.2.2.2.2.1
  have f7 := (cells_of_block q1).2.2.2.2.2.2.2.1
  have f8 := (cells_of_block q1).2.2.2.2.2.2.2.2
  have fz := free_of_block q1
  have l0 : w.heap.size < V.heap.size := by omega
  have l1 : w.heap.size + 1 < V.heap.size := by omega
  clear q0 q1 hbV gV
  go_wp2
  exact end9t ⟨5, ⟨#[]⟩, 0, some ⟨a, 0, none⟩, 1, c⟩ (.bool false) rfl (by rfl) (by rfl) rfl HV.out.1 (fun F hF _ => ⟨rfl, below_gb (HQ.out.2.2.trans (HV.out.2.mono (by omega))) hF (by omega) (by simp)⟩)

set_option maxRecDepth 100000 in
set_option maxHeartbeats 800000 in
theorem same_app_no (f x : L) (hn : ∀ b, f ≠ .abs b) (w : World) (ok : Nat → Prop) (k : Hd) (hr : Rep w ok (.app f x) k)
    (ih : ∀ (w : World) (ok : Nat → Prop) (k : Hd), Rep w ok f k → Calls Try.prog 11 #[k.val] w (No w)) (ih2 : ∀ (w : World) (ok : Nat → Prop) (k : Hd), Rep w ok x k → Calls Try.prog 11 #[k.val] w (No w)) : Calls Try.prog 11 #[k.val] w (Same w k) := by
  obtain ⟨a, c, k, l, rfl, hok, hc, h0, h9, hf, hx⟩ := hr
  have ha := h0.lt
  have h5 := op_ne5 hf hn
  have HR := Lib.hid (And.intro hf.bound (And.intro h0 (And.intro h9 (And.intro hx.bound (And.intro hok hc)))))
  have IH := Lib.hid (And.intro ih ih2)
  clear hf hx hok hc ih ih2 hn h9
  obtain ⟨ha1, ha2, ha3, ha4, ha5, ha6⟩ := lts ha
  obtain ⟨c0, c1, c2, c3, c4, c5, c6, c7, c8⟩ := h0
  go_enter Try.func11, Try.ntmps11
  go_wp2
  refine wp_loop_rounds 3 ?_
  rw [rounds_succ]
  go_wp2_with fail
  refine (IH.out.1 _ _ k (HR.out.1.below (below3 w _ _ _))).mono ?_
  rintro e w1 ⟨k1, rfl, hb1⟩
  have q0 := (hb1.block w.heap.size (by simp; omega)).trans (heap3a w _ _ _)
  have q1 := (hb1.block (w.heap.size + 1) (by simp)).trans (heap3 w _ _ _)
  have hs1 : w.heap.size + 3 ≤ w1.heap.size := by have := hb1.size; simp at this; omega
  have hB := (below3 w _ _ _).trans (hb1.mono (by simp; omega))
  have HQ := Lib.hid (And.intro q0 (And.intro q1 hB))
  clear hb1 q0 q1 hB c0 c1 c2 c3 c4 c5 c6 c7 c8
  go_wp2
  rw [rounds_succ]
  refine gen1 ?_
  intro V hbV hsV gV
  have HV := Lib.hid (And.intro ((hbV.block w.heap.size (by omega)).trans HQ.out.1) (And.intro ((hbV.block (w.heap.size + 1) (by omega)).trans HQ.out.2.1) (HQ.out.2.2.trans (hbV.mono (by omega)))))
  clear hbV gV
  have haV : a < V.heap.size := by omega
  have hV9 := HR.out.2.2.1.move (HV.out.2.2.block a ha)
  obtain ⟨n0, n1, n2, n3, n4, n5, n6, n7, n8⟩ := hV9
  go_wp2_with fail
  refine (IH.out.2 _ _ l ((HR.out.2.2.2.1.below HV.out.2.2).below (alloc_below V l.obj))).mono ?_
  rintro e w3 ⟨k2, rfl, hb3⟩
  have l0 : w.heap.size < w3.heap.size := by have := hb3.size; simp at this; omega
  have l1 : w.heap.size + 1 < w3.heap.size := by have := hb3.size; simp at this; omega
  have hsz : w.heap.size + 4 ≤ w3.heap.size := by have := hb3.size; simp at this; omega
  have hB3 := (alloc_below V l.obj).trans (hb3.mono (by simp))
  have HT := Lib.hid (And.intro ((hB3.block w.heap.size (by omega)).trans HV.out.1) (And.intro ((hB3.block (w.heap.size + 1) (by omega)).trans HV.out.2.1) (And.intro (HV.out.2.2.trans (hB3.mono (by omega))) trivial)))
  clear hb3 hB3 n0 n1 n2 n3 n4 n5 n6 n7 n8
  go_wp2
  rw [rounds_succ]
  refine gen1 ?_
  intro U hbU hsU gU
  have q0 := (hbU.block w.heap.size (by omega)).trans HT.out.1
  have q1 := (hbU.block (w.heap.size + 1) (by omega)).trans HT.out.2.1
  have HU := Lib.hid (And.intro q1 hbU)
  have e0 := (cells_of_block q0).1
  have e1 := (cells_of_block q0).2.1
  have e2 := (cells_of_block q0).2.2.1
  have e3 := (cells_of_block q0).2.2.2.1
  have e4 := (cells_of_block q0).2.2.2.2.1
  have e5 := (cells_of_block q0).2.2.2.2.2.1
  have e6 := (cells_of_block q0).2.2.2.2.2.2.1
  have e7 := (cells_of_block q0).2.2.2.2.2.2.2.1
  have e8 := (cells_of_block q0).2.2.2.2.2.2.2.2
  have f0 := (cells_of_block q1).1
  have f1 := (cells_of_block q1).2.1
  have f2 := (cells_of_block q1).2.2.1
  have f3 := (cells_of_block q1).2.2.2.1
  have f4 := (cells_of_block q1).2.2.2.2.1
  have f5 := (cells_of_block q1).2.2.2.2.2.1
  have f6 := (cells_of_block q1).2.2.2.2.2.2.1
  have f7 := (cells_of_block q1).2.2.2.2.2.2.2.1
  have f8 := (cells_of_block q1).2.2.2.2.2.2.2.2
  have fz := free_of_block q1
  have l2 : w.heap.size < U.heap.size := by omega
  have l3 : w.heap.size + 1 < U.heap.size := by omega
  clear q0 q1 hbU gU
  go_wp2
  exact end9t ⟨6, ⟨#[]⟩, 0, some ⟨a, 0, none⟩, 2, c⟩ (.bool false) rfl (by rfl) (by rfl) rfl HU.out.1 (fun F hF _ => ⟨rfl, below_gb (HT.out.2.2.1.trans (HU.out.2.mono (by omega))) hF (by omega) (by simp)⟩)


theorem step_same (t : L) (h1 : t.most < 1000000) (h2 : t.depth < 1000000) (hs : t.step = none) (w : World) (ok : Nat → Prop) (k : Hd) (hr : Rep w ok t k) : Calls Try.prog 11 #[k.val] w (Same w k) := by
  have no : ∀ u : L, u.most < 1000000 → u.depth < 1000000 → u.step = none → ∀ (w : World) (ok : Nat → Prop) (k : Hd), Rep w ok u k → Calls Try.prog 11 #[k.val] w (No w) := fun u a b c w ok k hr =>
    (step_calls u a b w ok k hr).mono fun e w' h => by simpa [Steps, c] using h
  cases t with
  | free => cases hr; exact same_leaf _ _ _ rfl w
  | var => cases hr; exact same_leaf _ _ _ rfl w
  | bnd n => cases hr; exact same_leaf _ _ _ rfl w
  | abs b =>
    simp only [L.most, L.depth] at h1 h2
    have hb : b.step = none := by simpa [L.step] using hs
    exact same_abs_no b w ok k hr (no b (by omega) (by omega) hb)
  | app f x =>
    simp only [L.most, L.depth] at h1 h2
    have hn : ∀ b, f ≠ .abs b := by rintro b rfl; simp [L.step, L.beta] at hs
    have hbn := beta_no (x := x) hn
    have hf : f.step = none := by
      cases hf : f.step with
      | none => rfl
      | some u => simp [L.step, hbn, hf] at hs
    have hx : x.step = none := by
      cases hx : x.step with
      | none => rfl
      | some u => simp [L.step, hbn, hf, hx] at hs
    exact same_app_no f x hn w ok k hr (no f (by omega) (by omega) hf) (no x (by omega) (by omega) hx)
end Go.Proofs.Ytogdjjleclbgcaa
