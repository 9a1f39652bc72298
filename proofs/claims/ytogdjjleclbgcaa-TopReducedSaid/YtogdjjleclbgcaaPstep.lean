/- The program's step. -/
import Derived.Test.YtogdjjleclbgcaaPbeta
namespace Go.Proofs.Ytogdjjleclbgcaa
open Go.RowKit

set_option maxRecDepth 100000 in
set_option maxHeartbeats 800000 in
theorem pstep_leaf (op : Int) (nm : ByteArray) (num : Int) (h6 : (op == 6) = false) (w : World) : Calls Try.prog 23 #[Hd.val ⟨op, nm, num, none, 0, 0⟩] w (No w) := by
  go_enter Try.func23, Try.ntmps23
  go_wp2_with fail
  refine (beta_flat _ ⟨op, nm, num, none, 0, 0⟩ h6).mono ?_
  rintro e w1 ⟨rfl, hb1⟩
  have q0 := (hb1.block w.heap.size (by simp; omega)).trans (heap2a w _ _)
  have q1 := (hb1.block (w.heap.size + 1) (by simp)).trans (heap2 w _ _)
  have hs1 : w.heap.size + 2 ≤ w1.heap.size := by have := hb1.size; simp at this; omega
  have hB := (below2 w _ _).trans (hb1.mono (by simp; omega))
  have HQ := Lib.hid (And.intro q0 (And.intro q1 hB))
  have e0 := (cells_of_block q0).1
  have e1 := (cells_of_block q0).2.1
  have e2 := (cells_of_block q0).2.2.1
  have e3 := (cells_of_block q0).2.2.2.1
  have e4 := (cells_of_block q0).2.2.2.2.1
  have e5 := (cells_of_block q0).2.2.2.2.2.1
  have e6 := (cells_of_block q0).2.2.2.2.2.2.1
  have e7 := (cells_of_block q0).2.2.2.2.2.2.2.1
  have e8 := (cells_of_block q0).2.2.2.2.2.2.2.2
  have l0 : w.heap.size < w1.heap.size := by omega
  clear hb1 q0 q1 hB
  go_wp2
  refine wp_loop_rounds 1 ?_
  rw [rounds_succ]
  refine gen1 ?_
  intro V hbV hsV gV
  have q0 := (hbV.block w.heap.size (by omega)).trans HQ.out.1
  have q1 := (hbV.block (w.heap.size + 1) (by omega)).trans HQ.out.2.1
  have HV := Lib.hid (And.intro q1 (HQ.out.2.2.trans (hbV.mono (by omega))))
  have hsV' : w.heap.size + 3 ≤ V.heap.size := by omega
  clear hbV gV hsV e0 e1 e2 e3 e4 e5 e6 e7 e8
  have e0 := (cells_of_block q0).1
  have e1 := (cells_of_block q0).2.1
  have e2 := (cells_of_block q0).2.2.1
  have e3 := (cells_of_block q0).2.2.2.1
  have e4 := (cells_of_block q0).2.2.2.2.1
  have e5 := (cells_of_block q0).2.2.2.2.2.1
  have e6 := (cells_of_block q0).2.2.2.2.2.2.1
  have e7 := (cells_of_block q0).2.2.2.2.2.2.2.1
  have e8 := (cells_of_block q0).2.2.2.2.2.2.2.2
  have f0 := (cells_of_block q1).1
  have f1 := (cells_of_block q1).2.1
  have f2 := (cells_of_block q1).2.2.1
  have f3 := (cells_of_block q1).2.2.2.1
  have f4 := (cells_of_block q1).2.2.2.2.1
  have f5 := (cells_of_block q1).2.2.2.2.2.1
  have f6 := (cells_of_block q1).2.2.2.2.2.2.1
  have f7 := (cells_of_block q1).2.2.2.2.2.2.2.1
  have f8 := (cells_of_block q1).2.2.2.2.2.2.2.2
  have fz := free_of_block q1
  clear q0 q1
  go_wp2
  exact end9t ⟨op, nm, num, none, 0, 0⟩ (.bool false) rfl (by rfl) (by rfl) rfl HV.out.1 (fun F hF _ => ⟨_, rfl, below_gb HV.out.2 hF (by omega) (by simp)⟩)

set_option maxRecDepth 100000 in
set_option maxHeartbeats 800000 in
theorem pstep_abs_no (b : L) (w : World) (ok : Nat → Prop) (k : Hd) (hr : Rep w ok (.abs b) k)
    (ih : ∀ (w : World) (ok : Nat → Prop) (k : Hd), Rep w ok b k → Calls Try.prog 23 #[k.val] w (No w)) : Calls Try.prog 23 #[k.val] w (No w) := by
  obtain ⟨a, c, k, rfl, hok, hc, h0, hr⟩ := hr
  have ha := h0.lt
  have HR := Lib.hid (And.intro hr.bound (And.intro h0 (And.intro hok hc)))
  have IH := Lib.hid ih
  clear hr hok hc ih h0
  go_enter Try.func23, Try.ntmps23
  go_wp2_with fail
  refine (beta_flat _ ⟨5, ⟨#[]⟩, 0, some ⟨a, 0, none⟩, 1, c⟩ rfl).mono ?_
  rintro e w1 ⟨rfl, hb1⟩
  have q0 := (hb1.block w.heap.size (by simp; omega)).trans (heap2a w _ _)
  have q1 := (hb1.block (w.heap.size + 1) (by simp)).trans (heap2 w _ _)
  have hs1 : w.heap.size + 2 ≤ w1.heap.size := by have := hb1.size; simp at this; omega
  have hB := (below2 w _ _).trans (hb1.mono (by simp; omega))
  have HQ := Lib.hid (And.intro q0 (And.intro q1 hB))
  have e0 := (cells_of_block q0).1
  have e1 := (cells_of_block q0).2.1
  have e2 := (cells_of_block q0).2.2.1
  have e3 := (cells_of_block q0).2.2.2.1
  have e4 := (cells_of_block q0).2.2.2.2.1
  have e5 := (cells_of_block q0).2.2.2.2.2.1
  have e6 := (cells_of_block q0).2.2.2.2.2.2.1
  have e7 := (cells_of_block q0).2.2.2.2.2.2.2.1
  have e8 := (cells_of_block q0).2.2.2.2.2.2.2.2
  have l0 : w.heap.size < w1.heap.size := by omega
  clear hb1 q0 q1 hB
  go_wp2
  refine wp_loop_rounds 2 ?_
  rw [rounds_succ]
  refine gen1 ?_
  intro V hbV hsV gV
  have HV := Lib.hid (And.intro ((hbV.block w.heap.size (by omega)).trans HQ.out.1) (And.intro ((hbV.block (w.heap.size + 1) (by omega)).trans HQ.out.2.1) (HQ.out.2.2.trans (hbV.mono (by omega)))))
  have hsV' : w.heap.size + 3 ≤ V.heap.size := by omega
  clear hbV gV hsV e0 e1 e2 e3 e4 e5 e6 e7 e8
  have haV : a < V.heap.size := by omega
  obtain ⟨n0, n1, n2, n3, n4, n5, n6, n7, n8⟩ := HR.out.2.1.move (HV.out.2.2.block a ha)
  go_wp2_with fail
  refine (IH.out _ _ k ((HR.out.1.below HV.out.2.2).below (alloc_below V k.obj))).mono ?_
  rintro e w3 ⟨k2, rfl, hb3⟩
  have hsz : V.heap.size + 1 ≤ w3.heap.size := by have := hb3.size; simp at this; omega
  have hB3 := (alloc_below V k.obj).trans (hb3.mono (by simp))
  have HT := Lib.hid (And.intro ((hB3.block w.heap.size (by omega)).trans HV.out.1) (And.intro ((hB3.block (w.heap.size + 1) (by omega)).trans HV.out.2.1) (HV.out.2.2.trans (hB3.mono (by omega)))))
  clear hb3 hB3 n0 n1 n2 n3 n4 n5 n6 n7 n8
  go_wp2
  rw [rounds_succ]
  refine gen1 ?_
  intro U hbU hsU gU
  have q0 := (hbU.block w.heap.size (by omega)).trans HT.out.1
  have q1 := (hbU.block (w.heap.size + 1) (by omega)).trans HT.out.2.1
  have HU := Lib.hid (And.intro q1 hbU)
  have e0 := (cells_of_block q0).1
  have e1 := (cells_of_block q0).2.1
  have e2 := (cells_of_block q0).2.2.1
  have e3 := (cells_of_block q0).2.2.2.1
  have e4 := (cells_of_block q0).2.2.2.2.1
  have e5 := (cells_of_block q0).2.2.2.2.2.1
  have e6 := (cells_of_block q0).2.2.2.2.2.2.1
  have e7 := (cells_of_block q0).2.2.2.2.2.2.2.1
  have e8 := (cells_of_block q0).2.2.2.2.2.2.2.2
  have f0 := (cells_of_block q1).1
  have f1 := (cells_of_block q1).2.1
  have f2 := (cells_of_block q1).2.2.1
  have f3 := (cells_of_block q1).2.2.2.1
  have f4 := (cells_of_block q1).2.2.2.2.1
  have f5 := (cells_of_block q1).2.2.2.2.2.1
  have f6 := (cells_of_block q1).2.2.2.2.2.2.1
  have f7 := (cells_of_block q1).2.2.2.2.2.2.2.1
  have f8 := (cells_of_block q1).2.2.2.2.2.2.2.2
  have fz := free_of_block q1
  have l2 : w.heap.size < U.heap.size := by omega
  have l3 : w.heap.size + 1 < U.heap.size := by omega
  clear q0 q1 hbU gU
  go_wp2
  exact end9t ⟨5, ⟨#[]⟩, 0, some ⟨a, 0, none⟩, 1, c⟩ (.bool false) rfl (by rfl) (by rfl) rfl HU.out.1 (fun F hF _ => ⟨_, rfl, below_gb (HT.out.2.2.trans (HU.out.2.mono (by omega))) hF (by omega) (by simp)⟩)

set_option maxRecDepth 100000 in
set_option maxHeartbeats 800000 in
theorem pstep_abs_yes (b b' : L) (w : World) (ok : Nat → Prop) (k : Hd) (hr : Rep w ok (.abs b) k)
    (ih : ∀ (w : World) (ok : Nat → Prop) (k : Hd), Rep w ok b k → Calls Try.prog 23 #[k.val] w (Yes w ok b')) : Calls Try.prog 23 #[k.val] w (Yes w ok (.abs b')) := by
  obtain ⟨a, c, k, rfl, hok, hc, h0, hr⟩ := hr
  have ha := h0.lt
  have HR := Lib.hid (And.intro hr.bound (And.intro h0 (And.intro hok hc)))
  have IH := Lib.hid ih
  clear hr hok hc ih h0
  go_enter Try.func23, Try.ntmps23
  go_wp2_with fail
  refine (beta_flat _ ⟨5, ⟨#[]⟩, 0, some ⟨a, 0, none⟩, 1, c⟩ rfl).mono ?_
  rintro e w1 ⟨rfl, hb1⟩
  have q0 := (hb1.block w.heap.size (by simp; omega)).trans (heap2a w _ _)
  have q1 := (hb1.block (w.heap.size + 1) (by simp)).trans (heap2 w _ _)
  have hs1 : w.heap.size + 2 ≤ w1.heap.size := by have := hb1.size; simp at this; omega
  have hB := (below2 w _ _).trans (hb1.mono (by simp; omega))
  have HQ := Lib.hid (And.intro q0 (And.intro q1 hB))
  have e0 := (cells_of_block q0).1
  have e1 := (cells_of_block q0).2.1
  have e2 := (cells_of_block q0).2.2.1
  have e3 := (cells_of_block q0).2.2.2.1
  have e4 := (cells_of_block q0).2.2.2.2.1
  have e5 := (cells_of_block q0).2.2.2.2.2.1
  have e6 := (cells_of_block q0).2.2.2.2.2.2.1
  have e7 := (cells_of_block q0).2.2.2.2.2.2.2.1
  have e8 := (cells_of_block q0).2.2.2.2.2.2.2.2
  have l0 : w.heap.size < w1.heap.size := by omega
  clear hb1 q0 q1 hB
  go_wp2
  refine wp_loop_rounds 2 ?_
  rw [rounds_succ]
  refine gen1 ?_
  intro V hbV hsV gV
  have HV := Lib.hid (And.intro ((hbV.block w.heap.size (by omega)).trans HQ.out.1) (And.intro ((hbV.block (w.heap.size + 1) (by omega)).trans HQ.out.2.1) (HQ.out.2.2.trans (hbV.mono (by omega)))))
  have hsV' : w.heap.size + 3 ≤ V.heap.size := by omega
  clear hbV gV hsV e0 e1 e2 e3 e4 e5 e6 e7 e8
  have haV : a < V.heap.size := by omega
  obtain ⟨n0, n1, n2, n3, n4, n5, n6, n7, n8⟩ := HR.out.2.1.move (HV.out.2.2.block a ha)
  go_wp2_with fail
  refine (IH.out _ _ k ((HR.out.1.below HV.out.2.2).below (alloc_below V k.obj))).mono ?_
  rintro e w3 ⟨k2, rfl, hr3, hb3⟩
  have hsz : V.heap.size + 1 ≤ w3.heap.size := by have := hb3.size; simp at this; omega
  have hB3 := (alloc_below V k.obj).trans (hb3.mono (by simp))
  have HT := Lib.hid (And.intro ((hB3.block w.heap.size (by omega)).trans HV.out.1) (And.intro ((hB3.block (w.heap.size + 1) (by omega)).trans HV.out.2.1) (And.intro (HV.out.2.2.trans (hB3.mono (by omega))) hr3)))
  clear hb3 hB3 n0 n1 n2 n3 n4 n5 n6 n7 n8
  clear hr3
  have q0 := HT.out.1
  have e0 := (cells_of_block q0).1
  have e1 := (cells_of_block q0).2.1
  have e2 := (cells_of_block q0).2.2.1
  have e3 := (cells_of_block q0).2.2.2.1
  have e4 := (cells_of_block q0).2.2.2.2.1
  have e5 := (cells_of_block q0).2.2.2.2.2.1
  have e6 := (cells_of_block q0).2.2.2.2.2.2.1
  have e7 := (cells_of_block q0).2.2.2.2.2.2.2.1
  have e8 := (cells_of_block q0).2.2.2.2.2.2.2.2
  have l0 : w.heap.size < w3.heap.size := by omega
  have l1 : w.heap.size + 1 < w3.heap.size := by omega
  clear q0
  go_wp2_with fail
  have hA := HR.out.2.1.move (HT.out.2.2.1.block a ha)
  have hAl : a < w3.heap.size := by have := HT.out.2.2.1.size; omega
  refine (clone1 _ a c k (hA.move ((alloc_below w3 _).block a hAl))).mono ?_
  rintro e w9 ⟨g, gc, rfl, hown, hb2⟩
  have hs2 : w3.heap.size + 1 ≤ w9.heap.size := by have := hb2.size; simp at this; omega
  have hb12 := (alloc_below w3 k2.obj).trans (hb2.mono (by simp))
  have q0 := (hb12.block w.heap.size l0).trans HT.out.1
  have q1 := (hb12.block (w.heap.size + 1) l1).trans HT.out.2.1
  have q2 := (hb2.block w3.heap.size (by simp)).trans (Go.heap_alloc_new w3 k2.obj)
  obtain ⟨hcap, hg, hgl⟩ := own_cap hown
  obtain ⟨cs, hcs, hcn⟩ := own_block hown
  have fg := free_of_block hcs
  have z3 := free_of_block q0
  have f1z := free_of_block q1
  clear e0 e1 e2 e3 e4 e5 e6 e7 e8
  have e0 := (cells_of_block q0).1
  have e1 := (cells_of_block q0).2.1
  have e2 := (cells_of_block q0).2.2.1
  have e3 := (cells_of_block q0).2.2.2.1
  have e4 := (cells_of_block q0).2.2.2.2.1
  have e5 := (cells_of_block q0).2.2.2.2.2.1
  have e6 := (cells_of_block q0).2.2.2.2.2.2.1
  have e7 := (cells_of_block q0).2.2.2.2.2.2.2.1
  have e8 := (cells_of_block q0).2.2.2.2.2.2.2.2
  have f0 := (cells_of_block q1).1
  have f1 := (cells_of_block q1).2.1
  have f2 := (cells_of_block q1).2.2.1
  have f3 := (cells_of_block q1).2.2.2.1
  have f4 := (cells_of_block q1).2.2.2.2.1
  have f5 := (cells_of_block q1).2.2.2.2.2.1
  have f6 := (cells_of_block q1).2.2.2.2.2.2.1
  have f7 := (cells_of_block q1).2.2.2.2.2.2.2.1
  have f8 := (cells_of_block q1).2.2.2.2.2.2.2.2
  have g0 := (cells_of_block q2).1
  have g1 := (cells_of_block q2).2.1
  have g2 := (cells_of_block q2).2.2.1
  have g3 := (cells_of_block q2).2.2.2.1
  have g4 := (cells_of_block q2).2.2.2.2.1
  have g5 := (cells_of_block q2).2.2.2.2.2.1
  have g6 := (cells_of_block q2).2.2.2.2.2.2.1
  have g7 := (cells_of_block q2).2.2.2.2.2.2.2.1
  have g8 := (cells_of_block q2).2.2.2.2.2.2.2.2
  have hO := at0_of_own (k := k) (r := []) (by simpa using hown)
  have HW := Lib.hid (And.intro q1 (And.intro hO (And.intro hb12 (And.intro hcs (And.intro hcn trivial)))))
  obtain ⟨o0, o1, o2, o3, o4, o5, o6, o7, o8⟩ := hO
  clear q0 q1 q2 hb2 hb12 hcs hcn hown
  have l2 : w3.heap.size < w9.heap.size := by omega
  have l3 : w.heap.size < w9.heap.size := by omega
  have l4 : w.heap.size + 1 < w9.heap.size := by omega
  have hgg : w3.heap.size + 1 ≤ g := by simp at hg; omega
  have hg0 : w.heap.size + 1 + 1 < g := by omega
  clear hg
  go_wp2
  refine yes0 (s := w.heap.size) k2 ⟨5, ⟨#[]⟩, 0, some ⟨g, 0, none⟩, 1, gc⟩ (.bool true) rfl (by rfl) (by rfl) rfl HW.out.2.2.2.1 (by have := HW.out.2.2.2.2.1; omega) HW.out.1 (by omega) (by omega) (by omega) ⟨by omega, by omega, by omega, by omega⟩ ?_
  intro F hF hM hA hA'
  have hB := HT.out.2.2.1
  have hb12 := HW.out.2.2.1
  refine ⟨_, rfl, ?_, (hB.trans (hb12.mono (by omega))).trans hF⟩
  exact ⟨g, gc, k2, rfl, .inr (by omega), hcap, hA, (HT.out.2.2.2.bound.move (by
    rintro z ⟨⟨_, hz⟩ | hz, hz'⟩ _
    · exact (hM z (by omega) (by omega) (by omega) (by omega)).trans (hb12.block z hz')
    · (try simp at hz); exact (hM z (by omega) (by omega) (by omega) (by omega)).trans (hb12.block z hz'))).imp (by
    rintro z ⟨⟨hz, _⟩ | hz, _⟩ _
    · exact .inl hz
    · exact .inr (by (try simp at hz); omega))⟩

set_option maxRecDepth 100000 in
set_option maxHeartbeats 800000 in
theorem pstep_app_f (f x f' : L) (hn : ∀ b, f ≠ .abs b) (w : World) (ok : Nat → Prop) (k : Hd) (hr : Rep w ok (.app f x) k)
    (ih : ∀ (w : World) (ok : Nat → Prop) (k : Hd), Rep w ok f k → Calls Try.prog 23 #[k.val] w (Yes w ok f')) : Calls Try.prog 23 #[k.val] w (Yes w ok (.app f' x)) := by
  have hr0 := hr
  obtain ⟨a, c, k, l, rfl, hok, hc, h0, h9, hf, hx⟩ := hr
  have ha := h0.lt
  have HR := Lib.hid (And.intro hf.bound (And.intro h0 (And.intro h9 (And.intro hx.bound (And.intro hok hc)))))
  have IH := Lib.hid ih
  have HN := Lib.hid hn
  have H0 := Lib.hid hr0.bound
  clear hf hx hok hc ih hn h9 h0 hr0
  go_enter Try.func23, Try.ntmps23
  go_wp2_with fail
  refine (beta_none f x HN.out _ _ ⟨6, ⟨#[]⟩, 0, some ⟨a, 0, none⟩, 2, c⟩ (H0.out.below (below2 w _ _))).mono ?_
  rintro e w1 ⟨rfl, hb1⟩
  have q0 := (hb1.block w.heap.size (by simp; omega)).trans (heap2a w _ _)
  have q1 := (hb1.block (w.heap.size + 1) (by simp)).trans (heap2 w _ _)
  have hs1 : w.heap.size + 2 ≤ w1.heap.size := by have := hb1.size; simp at this; omega
  have hB := (below2 w _ _).trans (hb1.mono (by simp; omega))
  have HQ := Lib.hid (And.intro q0 (And.intro q1 hB))
  have e0 := (cells_of_block q0).1
  have e1 := (cells_of_block q0).2.1
  have e2 := (cells_of_block q0).2.2.1
  have e3 := (cells_of_block q0).2.2.2.1
  have e4 := (cells_of_block q0).2.2.2.2.1
  have e5 := (cells_of_block q0).2.2.2.2.2.1
  have e6 := (cells_of_block q0).2.2.2.2.2.2.1
  have e7 := (cells_of_block q0).2.2.2.2.2.2.2.1
  have e8 := (cells_of_block q0).2.2.2.2.2.2.2.2
  have l0 : w.heap.size < w1.heap.size := by omega
  clear hb1 q0 q1 hB
  go_wp2
  refine wp_loop_rounds 3 ?_
  rw [rounds_succ]
  refine gen1 ?_
  intro V hbV hsV gV
  have HV := Lib.hid (And.intro ((hbV.block w.heap.size (by omega)).trans HQ.out.1) (And.intro ((hbV.block (w.heap.size + 1) (by omega)).trans HQ.out.2.1) (HQ.out.2.2.trans (hbV.mono (by omega)))))
  have hsV' : w.heap.size + 3 ≤ V.heap.size := by omega
  clear hbV gV hsV e0 e1 e2 e3 e4 e5 e6 e7 e8
  have haV : a < V.heap.size := by omega
  obtain ⟨n0, n1, n2, n3, n4, n5, n6, n7, n8⟩ := HR.out.2.1.move (HV.out.2.2.block a ha)
  go_wp2_with fail
  refine (IH.out _ _ k ((HR.out.1.below HV.out.2.2).below (alloc_below V k.obj))).mono ?_
  rintro e w3 ⟨k2, rfl, hr3, hb3⟩
  have hsz : V.heap.size + 1 ≤ w3.heap.size := by have := hb3.size; simp at this; omega
  have hB3 := (alloc_below V k.obj).trans (hb3.mono (by simp))
  have HT := Lib.hid (And.intro ((hB3.block w.heap.size (by omega)).trans HV.out.1) (And.intro ((hB3.block (w.heap.size + 1) (by omega)).trans HV.out.2.1) (And.intro (HV.out.2.2.trans (hB3.mono (by omega))) hr3)))
  clear hb3 hB3 n0 n1 n2 n3 n4 n5 n6 n7 n8
  clear hr3
  have q0 := HT.out.1
  have e0 := (cells_of_block q0).1
  have e1 := (cells_of_block q0).2.1
  have e2 := (cells_of_block q0).2.2.1
  have e3 := (cells_of_block q0).2.2.2.1
  have e4 := (cells_of_block q0).2.2.2.2.1
  have e5 := (cells_of_block q0).2.2.2.2.2.1
  have e6 := (cells_of_block q0).2.2.2.2.2.2.1
  have e7 := (cells_of_block q0).2.2.2.2.2.2.2.1
  have e8 := (cells_of_block q0).2.2.2.2.2.2.2.2
  have l0 : w.heap.size < w3.heap.size := by omega
  have l1 : w.heap.size + 1 < w3.heap.size := by omega
  clear q0
  go_wp2_with fail
  have hA := HR.out.2.1.move (HT.out.2.2.1.block a ha)
  have hA9 := HR.out.2.2.1.move (HT.out.2.2.1.block a ha)
  have hAl : a < w3.heap.size := by have := HT.out.2.2.1.size; omega
  refine (clone2 _ a c k l (hA.move ((alloc_below w3 _).block a hAl)) (hA9.move ((alloc_below w3 _).block a hAl))).mono ?_
  rintro e w9 ⟨g, gc, rfl, hown, hb2⟩
  have hs2 : w3.heap.size + 1 ≤ w9.heap.size := by have := hb2.size; simp at this; omega
  have hb12 := (alloc_below w3 k2.obj).trans (hb2.mono (by simp))
  have q0 := (hb12.block w.heap.size l0).trans HT.out.1
  have q1 := (hb12.block (w.heap.size + 1) l1).trans HT.out.2.1
  have q2 := (hb2.block w3.heap.size (by simp)).trans (Go.heap_alloc_new w3 k2.obj)
  obtain ⟨hcap, hg, hgl⟩ := own_cap hown
  obtain ⟨cs, hcs, hcn⟩ := own_block hown
  have fg := free_of_block hcs
  have z3 := free_of_block q0
  have f1z := free_of_block q1
  clear e0 e1 e2 e3 e4 e5 e6 e7 e8
  have e0 := (cells_of_block q0).1
  have e1 := (cells_of_block q0).2.1
  have e2 := (cells_of_block q0).2.2.1
  have e3 := (cells_of_block q0).2.2.2.1
  have e4 := (cells_of_block q0).2.2.2.2.1
  have e5 := (cells_of_block q0).2.2.2.2.2.1
  have e6 := (cells_of_block q0).2.2.2.2.2.2.1
  have e7 := (cells_of_block q0).2.2.2.2.2.2.2.1
  have e8 := (cells_of_block q0).2.2.2.2.2.2.2.2
  have f0 := (cells_of_block q1).1
  have f1 := (cells_of_block q1).2.1
  have f2 := (cells_of_block q1).2.2.1
  have f3 := (cells_of_block q1).2.2.2.1
  have f4 := (cells_of_block q1).2.2.2.2.1
  have f5 := (cells_of_block q1).2.2.2.2.2.1
  have f6 := (cells_of_block q1).2.2.2.2.2.2.1
  have f7 := (cells_of_block q1).2.2.2.2.2.2.2.1
  have f8 := (cells_of_block q1).2.2.2.2.2.2.2.2
  have g0 := (cells_of_block q2).1
  have g1 := (cells_of_block q2).2.1
  have g2 := (cells_of_block q2).2.2.1
  have g3 := (cells_of_block q2).2.2.2.1
  have g4 := (cells_of_block q2).2.2.2.2.1
  have g5 := (cells_of_block q2).2.2.2.2.2.1
  have g6 := (cells_of_block q2).2.2.2.2.2.2.1
  have g7 := (cells_of_block q2).2.2.2.2.2.2.2.1
  have g8 := (cells_of_block q2).2.2.2.2.2.2.2.2
  have hO := at0_of_own (k := k) (r := l.cells) (by simpa using hown)
  have hO9 := at9_of_own (k := k) (l := l) (r := []) (by simpa using hown)
  have HW := Lib.hid (And.intro q1 (And.intro hO (And.intro hb12 (And.intro hcs (And.intro hcn hO9)))))
  obtain ⟨o0, o1, o2, o3, o4, o5, o6, o7, o8⟩ := hO
  clear q0 q1 q2 hb2 hb12 hcs hcn hown hO9
  have l2 : w3.heap.size < w9.heap.size := by omega
  have l3 : w.heap.size < w9.heap.size := by omega
  have l4 : w.heap.size + 1 < w9.heap.size := by omega
  have hgg : w3.heap.size + 1 ≤ g := by simp at hg; omega
  have hg0 : w.heap.size + 1 + 1 < g := by omega
  clear hg
  go_wp2
  refine yes0 (s := w.heap.size) k2 ⟨6, ⟨#[]⟩, 0, some ⟨g, 0, none⟩, 2, gc⟩ (.bool true) rfl (by rfl) (by rfl) rfl HW.out.2.2.2.1 (by have := HW.out.2.2.2.2.1; omega) HW.out.1 (by omega) (by omega) (by omega) ⟨by omega, by omega, by omega, by omega⟩ ?_
  intro F hF hM hA hA'
  have hB := HT.out.2.2.1
  have hb12 := HW.out.2.2.1
  refine ⟨_, rfl, ?_, (hB.trans (hb12.mono (by omega))).trans hF⟩
  exact ⟨g, gc, k2, l, rfl, .inr (by omega), hcap, hA, hA' l HW.out.2.2.2.2.2, (HT.out.2.2.2.bound.move (by
    rintro z ⟨⟨_, hz⟩ | hz, hz'⟩ _
    · exact (hM z (by omega) (by omega) (by omega) (by omega)).trans (hb12.block z hz')
    · (try simp at hz); exact (hM z (by omega) (by omega) (by omega) (by omega)).trans (hb12.block z hz'))).imp (by
    rintro z ⟨⟨hz, _⟩ | hz, _⟩ _
    · exact .inl hz
    · exact .inr (by (try simp at hz); omega)), (HR.out.2.2.2.1.move (by
    rintro z ⟨_, hz⟩ _
    exact (hM z (by omega) (by omega) (by omega) (by omega)).trans ((hb12.block z (by omega)).trans (hB.block z hz)))).imp (by
    rintro z ⟨hz, _⟩ _
    exact .inl hz)⟩

set_option maxRecDepth 100000 in
set_option maxHeartbeats 800000 in
theorem pstep_app_x (f x x' : L) (hn : ∀ b, f ≠ .abs b) (w : World) (ok : Nat → Prop) (k : Hd) (hr : Rep w ok (.app f x) k)
    (ih : ∀ (w : World) (ok : Nat → Prop) (k : Hd), Rep w ok f k → Calls Try.prog 23 #[k.val] w (No w)) (ih2 : ∀ (w : World) (ok : Nat → Prop) (k : Hd), Rep w ok x k → Calls Try.prog 23 #[k.val] w (Yes w ok x')) : Calls Try.prog 23 #[k.val] w (Yes w ok (.app f x')) := by
  have hr0 := hr
  obtain ⟨a, c, k, l, rfl, hok, hc, h0, h9, hf, hx⟩ := hr
  have ha := h0.lt
  have HR := Lib.hid (And.intro hf.bound (And.intro h0 (And.intro h9 (And.intro hx.bound (And.intro hok hc)))))
  have IH := Lib.hid (And.intro ih ih2)
  have HN := Lib.hid hn
  have H0 := Lib.hid hr0.bound
  clear hf hx hok hc ih ih2 hn h9 h0 hr0
  go_enter Try.func23, Try.ntmps23
  go_wp2_with fail
  refine (beta_none f x HN.out _ _ ⟨6, ⟨#[]⟩, 0, some ⟨a, 0, none⟩, 2, c⟩ (H0.out.below (below2 w _ _))).mono ?_
  rintro e w1 ⟨rfl, hb1⟩
  have q0 := (hb1.block w.heap.size (by simp; omega)).trans (heap2a w _ _)
  have q1 := (hb1.block (w.heap.size + 1) (by simp)).trans (heap2 w _ _)
  have hs1 : w.heap.size + 2 ≤ w1.heap.size := by have := hb1.size; simp at this; omega
  have hB := (below2 w _ _).trans (hb1.mono (by simp; omega))
  have HQ := Lib.hid (And.intro q0 (And.intro q1 hB))
  have e0 := (cells_of_block q0).1
  have e1 := (cells_of_block q0).2.1
  have e2 := (cells_of_block q0).2.2.1
  have e3 := (cells_of_block q0).2.2.2.1
  have e4 := (cells_of_block q0).2.2.2.2.1
  have e5 := (cells_of_block q0).2.2.2.2.2.1
  have e6 := (cells_of_block q0).2.2.2.2.2.2.1
  have e7 := (cells_of_block q0).2.2.2.2.2.2.2.1
  have e8 := (cells_of_block q0).2.2.2.2.2.2.2.2
  have l0 : w.heap.size < w1.heap.size := by omega
  clear hb1 q0 q1 hB
  go_wp2
  refine wp_loop_rounds 3 ?_
  rw [rounds_succ]
  refine gen1 ?_
  intro V hbV hsV gV
  have HV := Lib.hid (And.intro ((hbV.block w.heap.size (by omega)).trans HQ.out.1) (And.intro ((hbV.block (w.heap.size + 1) (by omega)).trans HQ.out.2.1) (HQ.out.2.2.trans (hbV.mono (by omega)))))
  have hsV' : w.heap.size + 3 ≤ V.heap.size := by omega
  clear hbV gV hsV e0 e1 e2 e3 e4 e5 e6 e7 e8
  have haV : a < V.heap.size := by omega
  obtain ⟨n0, n1, n2, n3, n4, n5, n6, n7, n8⟩ := HR.out.2.1.move (HV.out.2.2.block a ha)
  go_wp2_with fail
  refine (IH.out.1 _ _ k ((HR.out.1.below HV.out.2.2).below (alloc_below V k.obj))).mono ?_
  rintro e w3 ⟨k2, rfl, hb3⟩
  have hsz : V.heap.size + 1 ≤ w3.heap.size := by have := hb3.size; simp at this; omega
  have hB3 := (alloc_below V k.obj).trans (hb3.mono (by simp))
  have HT := Lib.hid (And.intro ((hB3.block w.heap.size (by omega)).trans HV.out.1) (And.intro ((hB3.block (w.heap.size + 1) (by omega)).trans HV.out.2.1) (And.intro (HV.out.2.2.trans (hB3.mono (by omega))) trivial)))
  clear hb3 hB3 n0 n1 n2 n3 n4 n5 n6 n7 n8
  go_wp2
  rw [rounds_succ]
  refine gen1 ?_
  intro U hbU hsU gU
  have HU := Lib.hid (And.intro ((hbU.block w.heap.size (by omega)).trans HT.out.1) (And.intro ((hbU.block (w.heap.size + 1) (by omega)).trans HT.out.2.1) (HT.out.2.2.1.trans (hbU.mono (by omega)))))
  have hsU' : w.heap.size + 5 ≤ U.heap.size := by omega
  clear hbU gU hsU
  have haU : a < U.heap.size := by omega
  obtain ⟨n0, n1, n2, n3, n4, n5, n6, n7, n8⟩ := HR.out.2.2.1.move (HU.out.2.2.block a ha)
  go_wp2_with fail
  refine (IH.out.2 _ _ l ((HR.out.2.2.2.1.below HU.out.2.2).below (alloc_below U l.obj))).mono ?_
  rintro e w5 ⟨k5, rfl, hr5, hb5⟩
  have hsz : U.heap.size + 1 ≤ w5.heap.size := by have := hb5.size; simp at this; omega
  have hB5 := (alloc_below U l.obj).trans (hb5.mono (by simp))
  have HT2 := Lib.hid (And.intro ((hB5.block w.heap.size (by omega)).trans HU.out.1) (And.intro ((hB5.block (w.heap.size + 1) (by omega)).trans HU.out.2.1) (And.intro (HU.out.2.2.trans (hB5.mono (by omega))) hr5)))
  clear hb5 hB5 n0 n1 n2 n3 n4 n5 n6 n7 n8
  clear hr5
  have q0 := HT2.out.1
  have e0 := (cells_of_block q0).1
  have e1 := (cells_of_block q0).2.1
  have e2 := (cells_of_block q0).2.2.1
  have e3 := (cells_of_block q0).2.2.2.1
  have e4 := (cells_of_block q0).2.2.2.2.1
  have e5 := (cells_of_block q0).2.2.2.2.2.1
  have e6 := (cells_of_block q0).2.2.2.2.2.2.1
  have e7 := (cells_of_block q0).2.2.2.2.2.2.2.1
  have e8 := (cells_of_block q0).2.2.2.2.2.2.2.2
  have l0 : w.heap.size < w5.heap.size := by omega
  have l1 : w.heap.size + 1 < w5.heap.size := by omega
  clear q0
  go_wp2_with fail
  have hA := HR.out.2.1.move (HT2.out.2.2.1.block a ha)
  have hA9 := HR.out.2.2.1.move (HT2.out.2.2.1.block a ha)
  have hAl : a < w5.heap.size := by have := HT2.out.2.2.1.size; omega
  refine (clone2 _ a c k l (hA.move ((alloc_below w5 _).block a hAl)) (hA9.move ((alloc_below w5 _).block a hAl))).mono ?_
  rintro e w9 ⟨g, gc, rfl, hown, hb2⟩
  have hs2 : w5.heap.size + 1 ≤ w9.heap.size := by have := hb2.size; simp at this; omega
  have hb12 := (alloc_below w5 k5.obj).trans (hb2.mono (by simp))
  have q0 := (hb12.block w.heap.size l0).trans HT2.out.1
  have q1 := (hb12.block (w.heap.size + 1) l1).trans HT2.out.2.1
  have q2 := (hb2.block w5.heap.size (by simp)).trans (Go.heap_alloc_new w5 k5.obj)
  obtain ⟨hcap, hg, hgl⟩ := own_cap hown
  obtain ⟨cs, hcs, hcn⟩ := own_block hown
  have fg := free_of_block hcs
  have z3 := free_of_block q0
  have f1z := free_of_block q1
  clear e0 e1 e2 e3 e4 e5 e6 e7 e8
  have e0 := (cells_of_block q0).1
  have e1 := (cells_of_block q0).2.1
  have e2 := (cells_of_block q0).2.2.1
  have e3 := (cells_of_block q0).2.2.2.1
  have e4 := (cells_of_block q0).2.2.2.2.1
  have e5 := (cells_of_block q0).2.2.2.2.2.1
  have e6 := (cells_of_block q0).2.2.2.2.2.2.1
  have e7 := (cells_of_block q0).2.2.2.2.2.2.2.1
  have e8 := (cells_of_block q0).2.2.2.2.2.2.2.2
  have f0 := (cells_of_block q1).1
  have f1 := (cells_of_block q1).2.1
  have f2 := (cells_of_block q1).2.2.1
  have f3 := (cells_of_block q1).2.2.2.1
  have f4 := (cells_of_block q1).2.2.2.2.1
  have f5 := (cells_of_block q1).2.2.2.2.2.1
  have f6 := (cells_of_block q1).2.2.2.2.2.2.1
  have f7 := (cells_of_block q1).2.2.2.2.2.2.2.1
  have f8 := (cells_of_block q1).2.2.2.2.2.2.2.2
  have g0 := (cells_of_block q2).1
  have g1 := (cells_of_block q2).2.1
  have g2 := (cells_of_block q2).2.2.1
  have g3 := (cells_of_block q2).2.2.2.1
  have g4 := (cells_of_block q2).2.2.2.2.1
  have g5 := (cells_of_block q2).2.2.2.2.2.1
  have g6 := (cells_of_block q2).2.2.2.2.2.2.1
  have g7 := (cells_of_block q2).2.2.2.2.2.2.2.1
  have g8 := (cells_of_block q2).2.2.2.2.2.2.2.2
  have hO := at0_of_own (k := k) (r := l.cells) (by simpa using hown)
  have hO9 := at9_of_own (k := k) (l := l) (r := []) (by simpa using hown)
  have HW := Lib.hid (And.intro q1 (And.intro hO (And.intro hb12 (And.intro hcs (And.intro hcn hO9)))))
  obtain ⟨o0, o1, o2, o3, o4, o5, o6, o7, o8⟩ := hO9
  clear q0 q1 q2 hb2 hb12 hcs hcn hown hO
  have l2 : w5.heap.size < w9.heap.size := by omega
  have l3 : w.heap.size < w9.heap.size := by omega
  have l4 : w.heap.size + 1 < w9.heap.size := by omega
  have hgg : w5.heap.size + 1 ≤ g := by simp at hg; omega
  have hg0 : w.heap.size + 1 + 1 < g := by omega
  clear hg
  go_wp2
  refine yes9 (s := w.heap.size) k5 ⟨6, ⟨#[]⟩, 0, some ⟨g, 0, none⟩, 2, gc⟩ (.bool true) rfl (by rfl) (by rfl) rfl HW.out.2.2.2.1 (by have := HW.out.2.2.2.2.1; omega) HW.out.1 (by omega) (by omega) (by omega) ⟨by omega, by omega, by omega, by omega⟩ ?_
  intro F hF hM hA hA'
  have hB := HT2.out.2.2.1
  have hb12 := HW.out.2.2.1
  refine ⟨_, rfl, ?_, (hB.trans (hb12.mono (by omega))).trans hF⟩
  exact ⟨g, gc, k, k5, rfl, .inr (by omega), hcap, hA' k HW.out.2.1, hA, (HR.out.1.move (by
    rintro z ⟨_, hz⟩ _
    exact (hM z (by omega) (by omega) (by omega) (by omega)).trans ((hb12.block z (by omega)).trans (hB.block z hz)))).imp (by
    rintro z ⟨hz, _⟩ _
    exact .inl hz), (HT2.out.2.2.2.bound.move (by
    rintro z ⟨⟨_, hz⟩ | hz, hz'⟩ _
    · exact (hM z (by omega) (by omega) (by omega) (by omega)).trans (hb12.block z hz')
    · (try simp at hz); exact (hM z (by omega) (by omega) (by omega) (by omega)).trans (hb12.block z hz'))).imp (by
    rintro z ⟨⟨hz, _⟩ | hz, _⟩ _
    · exact .inl hz
    · exact .inr (by (try simp at hz); omega))⟩

set_option maxRecDepth 100000 in
set_option maxHeartbeats 800000 in
theorem pstep_app_no (f x : L) (hn : ∀ b, f ≠ .abs b) (w : World) (ok : Nat → Prop) (k : Hd) (hr : Rep w ok (.app f x) k)
    (ih : ∀ (w : World) (ok : Nat → Prop) (k : Hd), Rep w ok f k → Calls Try.prog 23 #[k.val] w (No w)) (ih2 : ∀ (w : World) (ok : Nat → Prop) (k : Hd), Rep w ok x k → Calls Try.prog 23 #[k.val] w (No w)) : Calls Try.prog 23 #[k.val] w (No w) := by
  have hr0 := hr
  obtain ⟨a, c, k, l, rfl, hok, hc, h0, h9, hf, hx⟩ := hr
  have ha := h0.lt
  have HR := Lib.hid (And.intro hf.bound (And.intro h0 (And.intro h9 (And.intro hx.bound (And.intro hok hc)))))
  have IH := Lib.hid (And.intro ih ih2)
  have HN := Lib.hid hn
  have H0 := Lib.hid hr0.bound
  clear hf hx hok hc ih ih2 hn h9 h0 hr0
  go_enter Try.func23, Try.ntmps23
  go_wp2_with fail
  refine (beta_none f x HN.out _ _ ⟨6, ⟨#[]⟩, 0, some ⟨a, 0, none⟩, 2, c⟩ (H0.out.below (below2 w _ _))).mono ?_
  rintro e w1 ⟨rfl, hb1⟩
  have q0 := (hb1.block w.heap.size (by simp; omega)).trans (heap2a w _ _)
  have q1 := (hb1.block (w.heap.size + 1) (by simp)).trans (heap2 w _ _)
  have hs1 : w.heap.size + 2 ≤ w1.heap.size := by have := hb1.size; simp at this; omega
  have hB := (below2 w _ _).trans (hb1.mono (by simp; omega))
  have HQ := Lib.hid (And.intro q0 (And.intro q1 hB))
  have e0 := (cells_of_block q0).1
  have e1 := (cells_of_block q0).2.1
  have e2 := (cells_of_block q0).2.2.1
  have e3 := (cells_of_block q0).2.2.2.1
  have e4 := (cells_of_block q0).2.2.2.2.1
  have e5 := (cells_of_block q0).2.2.2.2.2.1
  have e6 := (cells_of_block q0).2.2.2.2.2.2.1
  have e7 := (cells_of_block q0).2.2.2.2.2.2.2.1
  have e8 := (cells_of_block q0).2.2.2.2.2.2.2.2
  have l0 : w.heap.size < w1.heap.size := by omega
  clear hb1 q0 q1 hB
  go_wp2
  refine wp_loop_rounds 3 ?_
  rw [rounds_succ]
  refine gen1 ?_
  intro V hbV hsV gV
  have HV := Lib.hid (And.intro ((hbV.block w.heap.size (by omega)).trans HQ.out.1) (And.intro ((hbV.block (w.heap.size + 1) (by omega)).trans HQ.out.2.1) (HQ.out.2.2.trans (hbV.mono (by omega)))))
  have hsV' : w.heap.size + 3 ≤ V.heap.size := by omega
  clear hbV gV hsV e0 e1 e2 e3 e4 e5 e6 e7 e8
  have haV : a < V.heap.size := by omega
  obtain ⟨n0, n1, n2, n3, n4, n5, n6, n7, n8⟩ := HR.out.2.1.move (HV.out.2.2.block a ha)
  go_wp2_with fail
  refine (IH.out.1 _ _ k ((HR.out.1.below HV.out.2.2).below (alloc_below V k.obj))).mono ?_
  rintro e w3 ⟨k2, rfl, hb3⟩
  have hsz : V.heap.size + 1 ≤ w3.heap.size := by have := hb3.size; simp at this; omega
  have hB3 := (alloc_below V k.obj).trans (hb3.mono (by simp))
  have HT := Lib.hid (And.intro ((hB3.block w.heap.size (by omega)).trans HV.out.1) (And.intro ((hB3.block (w.heap.size + 1) (by omega)).trans HV.out.2.1) (And.intro (HV.out.2.2.trans (hB3.mono (by omega))) trivial)))
  clear hb3 hB3 n0 n1 n2 n3 n4 n5 n6 n7 n8
  go_wp2
  rw [rounds_succ]
  refine gen1 ?_
  intro U hbU hsU gU
  have HU := Lib.hid (And.intro ((hbU.block w.heap.size (by omega)).trans HT.out.1) (And.intro ((hbU.block (w.heap.size + 1) (by omega)).trans HT.out.2.1) (HT.out.2.2.1.trans (hbU.mono (by omega)))))
  have hsU' : w.heap.size + 5 ≤ U.heap.size := by omega
  clear hbU gU hsU
  have haU : a < U.heap.size := by omega
  obtain ⟨n0, n1, n2, n3, n4, n5, n6, n7, n8⟩ := HR.out.2.2.1.move (HU.out.2.2.block a ha)
  go_wp2_with fail
  refine (IH.out.2 _ _ l ((HR.out.2.2.2.1.below HU.out.2.2).below (alloc_below U l.obj))).mono ?_
  rintro e w5 ⟨k5, rfl, hb5⟩
  have hsz : U.heap.size + 1 ≤ w5.heap.size := by have := hb5.size; simp at this; omega
  have hB5 := (alloc_below U l.obj).trans (hb5.mono (by simp))
  have HT2 := Lib.hid (And.intro ((hB5.block w.heap.size (by omega)).trans HU.out.1) (And.intro ((hB5.block (w.heap.size + 1) (by omega)).trans HU.out.2.1) (And.intro (HU.out.2.2.trans (hB5.mono (by omega))) trivial)))
  clear hb5 hB5 n0 n1 n2 n3 n4 n5 n6 n7 n8
  go_wp2
  rw [rounds_succ]
  refine gen1 ?_
  intro X hbX hsX gX
  have q0 := (hbX.block w.heap.size (by omega)).trans HT2.out.1
  have q1 := (hbX.block (w.heap.size + 1) (by omega)).trans HT2.out.2.1
  have HX := Lib.hid (And.intro q1 hbX)
  have e0 := (cells_of_block q0).1
  have e1 := (cells_of_block q0).2.1
  have e2 := (cells_of_block q0).2.2.1
  have e3 := (cells_of_block q0).2.2.2.1
  have e4 := (cells_of_block q0).2.2.2.2.1
  have e5 := (cells_of_block q0).2.2.2.2.2.1
  have e6 := (cells_of_block q0).2.2.2.2.2.2.1
  have e7 := (cells_of_block q0).2.2.2.2.2.2.2.1
  have e8 := (cells_of_block q0).2.2.2.2.2.2.2.2
  have f0 := (cells_of_block q1).1
  have f1 := (cells_of_block q1).2.1
  have f2 := (cells_of_block q1).2.2.1
  have f3 := (cells_of_block q1).2.2.2.1
  have f4 := (cells_of_block q1).2.2.2.2.1
  have f5 := (cells_of_block q1).2.2.2.2.2.1
  have f6 := (cells_of_block q1).2.2.2.2.2.2.1
  have f7 := (cells_of_block q1).2.2.2.2.2.2.2.1
  have f8 := (cells_of_block q1).2.2.2.2.2.2.2.2
  have fz := free_of_block q1
  have l2 : w.heap.size < X.heap.size := by omega
  have l3 : w.heap.size + 1 < X.heap.size := by omega
  clear q0 q1 hbX gX
  go_wp2
  exact end9t ⟨6, ⟨#[]⟩, 0, some ⟨a, 0, none⟩, 2, c⟩ (.bool false) rfl (by rfl) (by rfl) rfl HX.out.1 (fun F hF _ => ⟨_, rfl, below_gb (HT2.out.2.2.1.trans (HX.out.2.mono (by omega))) hF (by omega) (by simp)⟩)

end Go.Proofs.Ytogdjjleclbgcaa
