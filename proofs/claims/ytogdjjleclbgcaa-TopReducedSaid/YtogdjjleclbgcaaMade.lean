/- term.change.made: function 29. -/
import Derived.Test.YtogdjjleclbgcaaTypes
import Derived.Test.YtogdjjleclbgcaaStep
import Derived.Test.YtogdjjleclbgcaaRegs
namespace Go.Proofs.Ytogdjjleclbgcaa
open Go.RowKit

/-- What a change leaves alone is handed back as it came. -/
def Kept (P : World → Prop) (fi : Nat) (first cap : Array Value) : Prop :=
  ∀ (w : World) (k : Hd) (d : Int), P w → (k.op == 4) = false → Calls Try.prog fi (first ++ (#[k.val, .int .i64 d] ++ cap)) w (fun e w' => e = .returned (.tuple #[k.val, .bool false]) ∧ Below w.heap.size w w')

/-- Five stores of no type leave a term as it was. -/
theorem fiveT {w : World} {r : Nat} {k : Hd} (h : w.heap[r]? = some k.obj) :
    ∃ V, (((((w.setCell ⟨r, 3, none⟩ (.int .i64 0)).setCell ⟨r, 4, none⟩ (.string ⟨#[]⟩)).setCell ⟨r, 5, none⟩ (.int .i64 0)).setCell ⟨r, 6, none⟩ (.slice none 0 0)).setCell ⟨r, 7, none⟩ (.slice none 0 0)) = V ∧ V.heap[r]? = some k.obj ∧ w.grownBy V (some r) ∧ V.heap.size = w.heap.size := by
  have h0 := Go.heap_setCell_same w r 3 _ 31 (.int .i64 0) h
  have h1 := Go.heap_setCell_same _ r 4 _ 31 (.string ⟨#[]⟩) h0
  have h2 := Go.heap_setCell_same _ r 5 _ 31 (.int .i64 0) h1
  have h3 := Go.heap_setCell_same _ r 6 _ 31 (.slice none 0 0) h2
  have h4 := Go.heap_setCell_same _ r 7 _ 31 (.slice none 0 0) h3
  refine ⟨_, rfl, by simpa using h4, ?_, by simp [World.setCell]⟩
  exact tr_row (tr_row (tr_row (tr_row (gb_set w r 3 _) (gb_set _ r 4 _)) (gb_set _ r 5 _)) (gb_set _ r 6 _)) (gb_set _ r 7 _)

set_option maxRecDepth 100000 in
set_option maxHeartbeats 800000 in
theorem made_flat (fi : Nat) (first cap : Array Value) (eg : ∀ args w, (callFunc fi args).run Try.prog w = .ok (.enter fi args) w) (op0 : Int) (nm0 : ByteArray) (num0 : Int) (op : Int) (nm : ByteArray) (num : Int) (h5 : (op == 5) = false) (t : L) (ht : ∀ w ok, Rep w ok t ⟨op, nm, num, none, 0, 0⟩)
    (d : Int) (w : World) (ok : Nat → Prop) (hc : ∀ w', Below w.heap.size w w' → Calls Try.prog fi (first ++ (#[Hd.val ⟨op0, nm0, num0, none, 0, 0⟩, .int .i64 d] ++ cap)) w' (fun e w'' => e = .returned (.tuple #[Hd.val ⟨op, nm, num, none, 0, 0⟩, .bool false]) ∧ Below w'.heap.size w' w'')) :
    Calls Try.prog 29 #[.func (.func fi) first cap, Hd.val ⟨op0, nm0, num0, none, 0, 0⟩, .int .i64 d] w (Gives w ok t) := by
  have HT := Lib.hid ht
  clear ht
  go_enter Try.func29, Try.ntmps29
  go_wp2_with fail
  refine (hc _ (below2 w _ _)).mono ?_
  rintro e w1 ⟨rfl, hb1⟩
  have q0 := (hb1.block w.heap.size (by simp; omega)).trans (heap2a w _ _)
  have q1 := (hb1.block (w.heap.size + 1) (by simp)).trans (heap2 w _ _)
  have hs1 : w.heap.size + 2 ≤ w1.heap.size := by have := hb1.size; simp at this; omega
  have hB := (below2 w _ _).trans (hb1.mono (by simp; omega))
  have HQ := Lib.hid (And.intro q0 (And.intro q1 hB))
  have e0 := (cells_of_block q0).1
  have e1 := (cells_of_block q0).2.1
  have e2 := (cells_of_block q0).2.2.1
  have e3 := (cells_of_block q0).2.2.2.1
  have e4 := (cells_of_block q0).2.2.2.2.1
  have e5 := (cells_of_block q0).2.2.2.2.2.1
  have e6 := (cells_of_block q0).2.2.2.2.2.2.1
  have e7 := (cells_of_block q0).2.2.2.2.2.2.2.1
  have e8 := (cells_of_block q0).2.2.2.2.2.2.2.2
  have ez := free_of_block q0
  clear hb1 q0 q1 hB
  go_wp2_with fail
  obtain ⟨V, hV, n1, n2, n3⟩ := nineE (.int .i64 op) (.string nm) (.int .i64 num) (.int .i64 0) (.string ⟨#[]⟩) (.int .i64 0) (.slice none 0 0) (.slice none 0 0) (.slice none 0 0) HQ.out.1
  rw [hV]
  refine (own_z V).mono ?_
  rintro e w2 ⟨rfl, hb2⟩
  have q0 : w2.heap[w.heap.size]? = some (Hd.obj ⟨op, nm, num, none, 0, 0⟩) := (hb2.block w.heap.size (by omega)).trans n1
  have q1 := (hb2.block (w.heap.size + 1) (by omega)).trans ((n2.block (w.heap.size + 1) (by omega) (by simp)).trans HQ.out.2.1)
  have hB := (below_gb HQ.out.2.2 n2 (by omega) (by simp)).trans (hb2.mono (by omega))
  have hs2 : w.heap.size + 2 ≤ w2.heap.size := by have := hb2.size; omega
  clear e0 e1 e2 e3 e4 e5 e6 e7 e8 ez
  have HW := Lib.hid (And.intro q0 (And.intro q1 hB))
  have e0 := (cells_of_block q0).1
  have e1 := (cells_of_block q0).2.1
  have e2 := (cells_of_block q0).2.2.1
  have e3 := (cells_of_block q0).2.2.2.1
  have e4 := (cells_of_block q0).2.2.2.2.1
  have e5 := (cells_of_block q0).2.2.2.2.2.1
  have e6 := (cells_of_block q0).2.2.2.2.2.2.1
  have e7 := (cells_of_block q0).2.2.2.2.2.2.2.1
  have e8 := (cells_of_block q0).2.2.2.2.2.2.2.2
  have ez := free_of_block q0
  clear q0 q1 hB n1 n2 hb2
  go_wp2_with fail
  obtain ⟨U, hU, m1, m2, m3⟩ := fiveT HW.out.1
  rw [hU]
  refine (clone0 U).mono ?_
  rintro e w3 ⟨rfl, hb3⟩
  have q0 := (hb3.block w.heap.size (by omega)).trans m1
  have q1 := (hb3.block (w.heap.size + 1) (by omega)).trans ((m2.block (w.heap.size + 1) (by omega) (by simp)).trans HW.out.2.1)
  have hB := (below_gb HW.out.2.2 m2 (by omega) (by simp)).trans (hb3.mono (by omega))
  have hs3 : w.heap.size + 2 ≤ w3.heap.size := by have := hb3.size; omega
  clear e0 e1 e2 e3 e4 e5 e6 e7 e8 ez
  have HX := Lib.hid (And.intro q0 (And.intro q1 hB))
  have e0 := (cells_of_block q0).1
  have e1 := (cells_of_block q0).2.1
  have e2 := (cells_of_block q0).2.2.1
  have e3 := (cells_of_block q0).2.2.2.1
  have e4 := (cells_of_block q0).2.2.2.2.1
  have e5 := (cells_of_block q0).2.2.2.2.2.1
  have e6 := (cells_of_block q0).2.2.2.2.2.2.1
  have e7 := (cells_of_block q0).2.2.2.2.2.2.2.1
  have e8 := (cells_of_block q0).2.2.2.2.2.2.2.2
  have f0 := (cells_of_block q1).1
  have f1 := (cells_of_block q1).2.1
  have f2 := (cells_of_block q1).2.2.1
  have f3 := (cells_of_block q1).2.2.2.1
  have f4 := (cells_of_block q1).2.2.2.2.1
  have f5 := (cells_of_block q1).2.2.2.2.2.1
  have f6 := (cells_of_block q1).2.2.2.2.2.2.1
  have f7 := (cells_of_block q1).2.2.2.2.2.2.2.1
  have f8 := (cells_of_block q1).2.2.2.2.2.2.2.2
  have ez := free_of_block q0
  have fz := free_of_block q1
  clear q0 q1 hB m1 m2 hb3
  go_wp2
  refine wp_loop_rounds 1 ?_
  rw [rounds_succ]
  go_wp2
  exact end9 ⟨op, nm, num, none, 0, 0⟩ rfl (by rfl) rfl ((Go.heap_setCell_other w3 ⟨w.heap.size, 8, none⟩ (w.heap.size + 1) (.slice none 0 0) (by simp)).trans HX.out.2.1) (fun F hF _ => ⟨_, rfl, HT.out _ _, below_gb (below_gb HX.out.2.2 (gb_set w3 w.heap.size 8 (.slice none 0 0)) (by omega) (by simp)) hF (by simp [World.setCell]; omega) (by simp)⟩)

set_option maxRecDepth 100000 in
set_option maxHeartbeats 800000 in
theorem made_done (fi : Nat) (first cap : Array Value) (eg : ∀ args w, (callFunc fi args).run Try.prog w = .ok (.enter fi args) w) (k0 : Hd) (t : L)
    (d : Int) (w : World) (ok : Nat → Prop) (hc : ∀ w', Below w.heap.size w w' → Calls Try.prog fi (first ++ (#[k0.val, .int .i64 d] ++ cap)) w' (fun e w'' => ∃ k : Hd, e = .returned (.tuple #[k.val, .bool true]) ∧ Rep w'' (fun a => (ok a ∧ a < w.heap.size) ∨ w'.heap.size ≤ a) t k ∧ Below w'.heap.size w' w'')) :
    Calls Try.prog 29 #[.func (.func fi) first cap, k0.val, .int .i64 d] w (Gives w ok t) := by
  go_enter Try.func29, Try.ntmps29
  go_wp2_with fail
  refine (hc _ (below2 w _ _)).mono ?_
  rintro e w1 ⟨k, rfl, hr, hb1⟩
  have q0 := (hb1.block w.heap.size (by simp; omega)).trans (heap2a w _ _)
  have q1 := (hb1.block (w.heap.size + 1) (by simp)).trans (heap2 w _ _)
  have hs1 : w.heap.size + 2 ≤ w1.heap.size := by have := hb1.size; simp at this; omega
  have hB := (below2 w _ _).trans (hb1.mono (by simp; omega))
  have HQ := Lib.hid (And.intro q0 (And.intro q1 (And.intro hB hr)))
  have e0 := (cells_of_block q0).1
  have e1 := (cells_of_block q0).2.1
  have e2 := (cells_of_block q0).2.2.1
  have e3 := (cells_of_block q0).2.2.2.1
  have e4 := (cells_of_block q0).2.2.2.2.1
  have e5 := (cells_of_block q0).2.2.2.2.2.1
  have e6 := (cells_of_block q0).2.2.2.2.2.2.1
  have e7 := (cells_of_block q0).2.2.2.2.2.2.2.1
  have e8 := (cells_of_block q0).2.2.2.2.2.2.2.2
  have f0 := (cells_of_block q1).1
  have f1 := (cells_of_block q1).2.1
  have f2 := (cells_of_block q1).2.2.1
  have f3 := (cells_of_block q1).2.2.2.1
  have f4 := (cells_of_block q1).2.2.2.2.1
  have f5 := (cells_of_block q1).2.2.2.2.2.1
  have f6 := (cells_of_block q1).2.2.2.2.2.2.1
  have f7 := (cells_of_block q1).2.2.2.2.2.2.2.1
  have f8 := (cells_of_block q1).2.2.2.2.2.2.2.2
  have ez := free_of_block q0
  have fz := free_of_block q1
  clear hb1 q0 q1 hB hr
  go_wp2
  obtain ⟨V, hV, n1, n2, n3⟩ := nineE (.int .i64 k.op) (.string k.name) (.int .i64 k.num) (.int .i64 0) (.string ⟨#[]⟩) (.int .i64 0) (.slice none 0 0) (.slice none 0 0) (.slice k.A k.n k.c) HQ.out.1
  rw [hV]
  refine end9 k rfl (by rfl) rfl ((n2.block (w.heap.size + 1) (by omega) (by simp)).trans HQ.out.2.1) (fun F hF _ => ⟨k, rfl, ?_, ?_⟩)
  · refine ((HQ.out.2.2.2.bound.grown n2 ?_).grown hF ?_).imp ?_
    · rintro z ⟨⟨_, hz⟩ | hz, _⟩ e
      · simp at e; omega
      · simp at e hz; omega
    · rintro z ⟨⟨_, hz⟩ | hz, _⟩ e
      · simp at e; omega
      · simp at e hz; omega
    · rintro z ⟨⟨hz, _⟩ | hz, _⟩ _
      · exact .inl hz
      · exact .inr (by simp at hz; omega)
  · exact below_gb (below_gb HQ.out.2.2.1 n2 (by omega) (by simp)) hF (by omega) (by simp)

/-- It holds, and will hold as long as nothing of what lies turns. -/
def Fine (P : World → Prop) (w : World) : Prop := ∀ w', Below w.heap.size w w' → P w'
theorem Fine.later {P : World → Prop} {s : Nat} {w w' : World} (h : Fine P w) (hb : Below s w w') (hs : s = w.heap.size := by rfl) : Fine P w' := fun v hv => h v ((hs ▸ hb).trans (hv.mono (hs ▸ hb).size))

theorem store0c {w : World} {r : Nat} {cs : Array Value} (k : Hd) (h : w.heap[r]? = some (.cells cs 31 (0, 0))) (hs : 9 ≤ cs.size) :
    ∃ V, (((((((((w.setCell ⟨r, 0, none⟩ (.int .i64 k.op)).setCell ⟨r, 1, none⟩ (.string k.name)).setCell ⟨r, 2, none⟩ (.int .i64 k.num)).setCell ⟨r, 3, none⟩ (.int .i64 0)).setCell ⟨r, 4, none⟩ (.string ⟨#[]⟩)).setCell ⟨r, 5, none⟩ (.int .i64 0)).setCell ⟨r, 6, none⟩ (.slice none 0 0)).setCell ⟨r, 7, none⟩ (.slice none 0 0)).setCell ⟨r, 8, none⟩ (.slice k.A k.n k.c)) = V ∧
      At0 V r k ∧ (∀ l, At9 w r l → At9 V r l) ∧ w.grownBy V (some r) ∧ V.heap.size = w.heap.size ∧ ∃ cs' : Array Value, V.heap[r]? = some (.cells cs' 31 (0, 0)) ∧ cs'.size = cs.size := by
  obtain ⟨V, hV, a, b, c, d⟩ := store0 k h hs
  refine ⟨V, hV, a, b, c, d, ?_⟩
  rw [← hV]
  exact ⟨_, heap_set _ r 8 _ _ _ (heap_set _ r 7 _ _ _ (heap_set _ r 6 _ _ _ (heap_set _ r 5 _ _ _ (heap_set _ r 4 _ _ _ (heap_set _ r 3 _ _ _ (heap_set _ r 2 _ _ _ (heap_set _ r 1 _ _ _ (heap_set _ r 0 _ _ _ h)))))))), by simp⟩

set_option maxRecDepth 100000 in
set_option maxHeartbeats 800000 in
theorem made_abs (fi : Nat) (first cap : Array Value) (eg : ∀ args w, (callFunc fi args).run Try.prog w = .ok (.enter fi args) w) (P : World → Prop) (hP : Kept P fi first cap) (b b' : L)
    (d : Nat) (hd : d < 1000000) (w : World) (ok : Nat → Prop) (k : Hd) (hr : Rep w ok (.abs b) k) (hw : Fine P w)
    (ih : ∀ (w' : World) (ok' : Nat → Prop) (k : Hd) (i : Int), i = (d + 1 : Nat) → Rep w' ok' b k → Fine P w' → (∀ z, ok z → z < w.heap.size → ok' z) → Calls Try.prog 29 #[.func (.func fi) first cap, k.val, .int .i64 i] w' (Gives w' ok' b')) :
    Calls Try.prog 29 #[.func (.func fi) first cap, k.val, .int .i64 d] w (Gives w ok (.abs b')) := by
  obtain ⟨a, c, k, rfl, hok, hc, h0, hr⟩ := hr
  have HR := Lib.hid (And.intro hr.bound h0)
  have IH := Lib.hid ih
  have ha := h0.lt
  clear hr ih h0
  go_enter Try.func29, Try.ntmps29
  go_wp2_with fail
  refine (hP _ ⟨5, ⟨#[]⟩, 0, some ⟨a, 0, none⟩, 1, c⟩ d (hw _ (below2 w _ _)) (by rfl)).mono ?_
  rintro e w1 ⟨rfl, hb1⟩
  have q0 := (hb1.block w.heap.size (by simp; omega)).trans (heap2a w _ _)
  have q1 := (hb1.block (w.heap.size + 1) (by simp)).trans (heap2 w _ _)
  have hs1 : w.heap.size + 2 ≤ w1.heap.size := by have := hb1.size; simp at this; omega
  have hB := (below2 w _ _).trans (hb1.mono (by simp; omega))
  have HQ := Lib.hid (And.intro q0 (And.intro q1 hB))
  have e0 := (cells_of_block q0).1
  have e1 := (cells_of_block q0).2.1
  have e2 := (cells_of_block q0).2.2.1
  have e3 := (cells_of_block q0).2.2.2.1
  have e4 := (cells_of_block q0).2.2.2.2.1
  have e5 := (cells_of_block q0).2.2.2.2.2.1
  have e6 := (cells_of_block q0).2.2.2.2.2.2.1
  have e7 := (cells_of_block q0).2.2.2.2.2.2.2.1
  have e8 := (cells_of_block q0).2.2.2.2.2.2.2.2
  have ez := free_of_block q0
  clear hb1 q0 q1 hB
  go_wp2_with fail
  obtain ⟨V, hV, n1, n2, n3⟩ := nineE (.int .i64 5) (.string ⟨#[]⟩) (.int .i64 0) (.int .i64 0) (.string ⟨#[]⟩) (.int .i64 0) (.slice none 0 0) (.slice none 0 0) (.slice (some ⟨a, 0, none⟩) 1 c) HQ.out.1
  rw [hV]
  refine (own_z V).mono ?_
  rintro e w2 ⟨rfl, hb2⟩
  have q0 : w2.heap[w.heap.size]? = some (Hd.obj ⟨5, ⟨#[]⟩, 0, some ⟨a, 0, none⟩, 1, c⟩) := (hb2.block w.heap.size (by omega)).trans n1
  have q1 := (hb2.block (w.heap.size + 1) (by omega)).trans ((n2.block (w.heap.size + 1) (by omega) (by simp)).trans HQ.out.2.1)
  have hB := (below_gb HQ.out.2.2 n2 (by omega) (by simp)).trans (hb2.mono (by omega))
  have hs2 : w.heap.size + 2 ≤ w2.heap.size := by have := hb2.size; omega
  clear e0 e1 e2 e3 e4 e5 e6 e7 e8 ez
  have HW := Lib.hid (And.intro q0 (And.intro q1 hB))
  have e0 := (cells_of_block q0).1
  have e1 := (cells_of_block q0).2.1
  have e2 := (cells_of_block q0).2.2.1
  have e3 := (cells_of_block q0).2.2.2.1
  have e4 := (cells_of_block q0).2.2.2.2.1
  have e5 := (cells_of_block q0).2.2.2.2.2.1
  have e6 := (cells_of_block q0).2.2.2.2.2.2.1
  have e7 := (cells_of_block q0).2.2.2.2.2.2.2.1
  have e8 := (cells_of_block q0).2.2.2.2.2.2.2.2
  have ez := free_of_block q0
  clear q0 q1 hB n1 n2 hb2
  go_wp2_with fail
  obtain ⟨U, hU, m1, m2, m3⟩ := fiveT HW.out.1
  rw [hU]
  have hBU := below_gb HW.out.2.2 m2 (by omega) (by simp)
  refine (clone1 _ a c k (HR.out.2.move (hBU.block a ha))).mono ?_
  rintro e w3 ⟨g, gc, rfl, hown, hb3⟩
  have q0 := (hb3.block w.heap.size (by omega)).trans m1
  have q1 := (hb3.block (w.heap.size + 1) (by omega)).trans ((m2.block (w.heap.size + 1) (by omega) (by simp)).trans HW.out.2.1)
  have hB := hBU.trans (hb3.mono (by omega))
  have hs3 : w.heap.size + 2 ≤ w3.heap.size := by have := hb3.size; omega
  obtain ⟨hcap, hgg, hgl⟩ := own_cap hown
  obtain ⟨cs, hcs, hcn⟩ := own_block hown
  have hg2 : w.heap.size + 2 ≤ g := by omega
  have hA := at0_of_own (k := k) (r := []) (by simpa using hown)
  have ez := free_of_block q0
  clear e0 e1 e2 e3 e4 e5 e6 e7 e8
  have e0 := (cells_of_block q0).1
  have e1 := (cells_of_block q0).2.1
  have e2 := (cells_of_block q0).2.2.1
  have e3 := (cells_of_block q0).2.2.2.1
  have e4 := (cells_of_block q0).2.2.2.2.1
  have e5 := (cells_of_block q0).2.2.2.2.2.1
  have e6 := (cells_of_block q0).2.2.2.2.2.2.1
  have e7 := (cells_of_block q0).2.2.2.2.2.2.2.1
  have e8 := (cells_of_block q0).2.2.2.2.2.2.2.2
  have hq0 := q0
  clear hown hgg q0 m1 m2 hb3 hBU
  go_wp2
  refine wp_loop_rounds 2 ?_
  rw [rounds_succ]
  obtain ⟨X, hX⟩ : ∃ X, w3.setCell ⟨w.heap.size, 8, none⟩ (.slice (some ⟨g, 0, none⟩) 1 gc) = X := ⟨_, rfl⟩
  rw [hX]
  have t0 : X.heap[w.heap.size]? = some (Hd.obj ⟨5, ⟨#[]⟩, 0, some ⟨g, 0, none⟩, 1, gc⟩) := by rw [← hX]; exact Go.heap_setCell_same w3 w.heap.size 8 _ 31 (.slice (some ⟨g, 0, none⟩) 1 gc) hq0
  have t1 := (Go.heap_setCell_other w3 ⟨w.heap.size, 8, none⟩ (w.heap.size + 1) (.slice (some ⟨g, 0, none⟩) 1 gc) (by simp)).trans q1
  have tg := Go.heap_setCell_other w3 ⟨w.heap.size, 8, none⟩ g (.slice (some ⟨g, 0, none⟩) 1 gc) (by simp; omega)
  have hX3 : w3.heap.size ≤ X.heap.size := by rw [← hX]; simp [World.setCell]
  have hBX : Below w.heap.size w X := by rw [← hX]; exact below_gb hB (gb_set w3 w.heap.size 8 _) (by omega) (by simp)
  rw [hX] at t1 tg
  have hcX := tg.trans hcs
  have hAX := hA.move tg
  clear e0 e1 e2 e3 e4 e5 e6 e7 e8 ez hX hq0 q1 hB hcs hA tg
  obtain ⟨o0, o1, o2, o3, o4, o5, o6, o7, o8⟩ := hAX
  have hAX : At0 X g k := ⟨o0, o1, o2, o3, o4, o5, o6, o7, o8⟩
  have hgX : g < X.heap.size := by omega
  go_wp2
  refine gen1 ?_
  intro W hbW hsW gW1
  have hsW' : X.heap.size + 1 ≤ W.heap.size := by omega
  clear hsW
  have t01 := (hbW.block w.heap.size (by omega)).trans t0
  have t11 := (hbW.block (w.heap.size + 1) (by omega)).trans t1
  have hcW := (hbW.block g hgX).trans hcX
  have hAW := hAX.move (hbW.block g hgX)
  have hBW := hBX.trans (hbW.mono (by omega))
  have hDW : Below w.heap.size w W.drew := hBW.drew
  clear o0 o1 o2 o3 o4 o5 o6 o7 o8 hAX hcX t0 t1
  refine G_begin (fun w' => W.grownBy w' (some g)) (by kernel_rfl) ?_
  refine G_take 0 8 rfl (by kernel_rfl) (fun _ _ _ h => h) (gb_some (gb_drew W)) (v := ?_) (.inl ⟨by rfl, ?_⟩) ?_
  rotate_left
  · intro w' hw'; go_simp; try with_reducible rfl
  refine G_take 1 8 rfl (by kernel_rfl) (fun _ _ _ h => h) (gb_some (gb_drew W)) (v := ?_) (.inl ⟨by rfl, ?_⟩) ?_
  rotate_left
  · intro w' hw'; have q := (cells_of_block ((hw'.block w.heap.size (by omega) (by simp; omega)).trans t01)).2.2.2.2.2.2.2.2; go_simp; try with_reducible rfl
  refine G_take 2 8 rfl (by kernel_rfl) (fun _ _ _ h => h) (gb_some (gb_drew W)) (v := ?_) (.inl ⟨by rfl, ?_⟩) ?_
  rotate_left
  · intro w' hw'; go_simp; try with_reducible rfl
  refine G_take 3 8 rfl (by kernel_rfl) (fun _ _ _ h => h) (gb_some (gb_drew W)) (v := ?_) (.inl ⟨by rfl, ?_⟩) ?_
  rotate_left
  · intro w' hw'; go_simp; try with_reducible rfl
  refine G_take 4 8 rfl (by kernel_rfl) (fun _ _ _ h => h) (gb_some (gb_drew W)) (v := ?_) (.inl ⟨by rfl, ?_⟩) ?_
  rotate_left
  · intro w' hw'; obtain ⟨e0, e1, e2, e3, e4, e5, e6, e7, e8⟩ := cells_of_block ((hw'.block X.heap.size (by omega) (by simp; try omega)).trans gW1); go_simp; try with_reducible rfl
  refine G_take 5 8 rfl (by kernel_rfl) (fun _ _ _ h => h) (gb_some (gb_drew W)) (v := ?_) (.inl ⟨by rfl, ?_⟩) ?_
  rotate_left
  · intro w' hw'; go_simp; try with_reducible rfl
  refine G_only 6 rfl (by kernel_rfl) ?_
  intro K hK
  go_simp
  refine (IH.out _ _ k (d + 1) (by omega) (HR.out.1.below hDW) (hw.later hDW) (fun z h1 h2 => ⟨h1, h2⟩)).mono ?_
  rintro e c1 ⟨z1, rfl, hr1, hb1⟩
  have hS1 : W.grownBy c1 none := gb_trans (gb_drew W) (gb_below hb1)
  refine hK _ _ ⟨(gb_some hS1), ?_⟩
  clear hK K
  refine G_take 7 8 rfl (by kernel_rfl) (fun _ _ _ h => h) (gb_some hS1) (v := ?_) (.inl ⟨by rfl, ?_⟩) ?_
  rotate_left
  · intro w' hw'; go_simp; try with_reducible rfl
  refine G_last 8 rfl (by kernel_rfl) (by kernel_rfl) ?_
  intro K hK
  have hg1 := (hS1.block g (by omega) (by simp)).trans hcW
  have fg := free_of_block hg1
  obtain ⟨o0, o1, o2, o3, o4, o5, o6, o7, o8⟩ := (hAW.move (hS1.block g (by omega) (by simp)))
  go_simp
  obtain ⟨V1, hV, hA1, hO1, hG1, hZ1⟩ := store0 z1 hg1 (by omega)
  rw [hV]
  clear hV o0 o1 o2 o3 o4 o5 o6 o7 o8 fg hZ1
  refine hK _ _ ?_
  clear hK K
  have hc1 := hS1.size
  have hc2 := hG1.size
  have y0 := (hG1.block w.heap.size (by omega) (by simp; omega)).trans ((hS1.block w.heap.size (by omega) (by simp)).trans t01)
  have y1 := (hG1.block (w.heap.size + 1) (by omega) (by simp; omega)).trans ((hS1.block (w.heap.size + 1) (by omega) (by simp)).trans t11)
  have hBV : Below w.heap.size w V1 := below_gb (below_gb hBW hS1 (by omega) (by simp)) hG1 (by omega) (by simp; omega)
  have hRV := (hr1.bound.grown hG1 (by
    rintro z ⟨⟨_, hz⟩ | hz, _⟩ e
    · simp at e; omega
    · simp at e hz; omega)).imp (ok' := fun z => (ok z ∧ z < w.heap.size) ∨ (w.heap.size + 2 ≤ z ∧ z ≠ g)) (by
    rintro z ⟨hz | hz, _⟩ _
    · exact .inl hz
    · exact .inr (by simp at hz; omega))
  have HF := Lib.hid (And.intro hBV (And.intro hRV hA1))
  have e0 := (cells_of_block y0).1
  have e1 := (cells_of_block y0).2.1
  have e2 := (cells_of_block y0).2.2.1
  have e3 := (cells_of_block y0).2.2.2.1
  have e4 := (cells_of_block y0).2.2.2.2.1
  have e5 := (cells_of_block y0).2.2.2.2.2.1
  have e6 := (cells_of_block y0).2.2.2.2.2.2.1
  have e7 := (cells_of_block y0).2.2.2.2.2.2.2.1
  have e8 := (cells_of_block y0).2.2.2.2.2.2.2.2
  have f0 := (cells_of_block y1).1
  have f1 := (cells_of_block y1).2.1
  have f2 := (cells_of_block y1).2.2.1
  have f3 := (cells_of_block y1).2.2.2.1
  have f4 := (cells_of_block y1).2.2.2.2.1
  have f5 := (cells_of_block y1).2.2.2.2.2.1
  have f6 := (cells_of_block y1).2.2.2.2.2.2.1
  have f7 := (cells_of_block y1).2.2.2.2.2.2.2.1
  have f8 := (cells_of_block y1).2.2.2.2.2.2.2.2
  have fz := free_of_block y1
  have hgV : g < V1.heap.size := by omega
  clear y0 t01 t11 hBV hRV hA1 hO1 hG1 hS1 hr1 hb1 hcW hAW hBW hDW gW1 hbW hg1
  go_wp2
  rw [rounds_succ]
  go_wp2
  refine end9 ⟨5, ⟨#[]⟩, 0, some ⟨g, 0, none⟩, 1, gc⟩ rfl (by rfl) rfl y1 (fun F hF _ => ⟨_, rfl, ⟨g, gc, z1, rfl, .inr (by omega), hcap, HF.out.2.2.move (hF.block g hgV (by simp; omega)), (HF.out.2.1.grown hF ?_).imp ?_⟩, below_gb HF.out.1 hF (by omega) (by simp)⟩)
  · rintro z (⟨_, hz⟩ | hz) e
    · simp at e; omega
    · simp at e; omega
  · rintro z (⟨hz, _⟩ | hz) _
    · exact .inl hz
    · exact .inr (by omega)

set_option maxRecDepth 100000 in
set_option maxHeartbeats 800000 in
theorem made_app (fi : Nat) (first cap : Array Value) (eg : ∀ args w, (callFunc fi args).run Try.prog w = .ok (.enter fi args) w) (P : World → Prop) (hP : Kept P fi first cap) (f x f' x' : L)
    (d : Nat) (w : World) (ok : Nat → Prop) (k : Hd) (hr : Rep w ok (.app f x) k) (hw : Fine P w)
    (ihf : ∀ (w' : World) (ok' : Nat → Prop) (k : Hd), Rep w' ok' f k → Fine P w' → (∀ z, ok z → z < w.heap.size → ok' z) → Calls Try.prog 29 #[.func (.func fi) first cap, k.val, .int .i64 d] w' (Gives w' ok' f'))
    (ihx : ∀ (w' : World) (ok' : Nat → Prop) (k : Hd), Rep w' ok' x k → Fine P w' → (∀ z, ok z → z < w.heap.size → ok' z) → Calls Try.prog 29 #[.func (.func fi) first cap, k.val, .int .i64 d] w' (Gives w' ok' x')) :
    Calls Try.prog 29 #[.func (.func fi) first cap, k.val, .int .i64 d] w (Gives w ok (.app f' x')) := by
  obtain ⟨a, c, k, l, rfl, hok, hc, h0, h9, hf, hx⟩ := hr
  have HR := Lib.hid (And.intro hf.bound (And.intro hx.bound (And.intro h0 h9)))
  have IH := Lib.hid (And.intro ihf ihx)
  have ha := h0.lt
  clear hf hx ihf ihx h9 h0
  go_enter Try.func29, Try.ntmps29
  go_wp2_with fail
  refine (hP _ ⟨6, ⟨#[]⟩, 0, some ⟨a, 0, none⟩, 2, c⟩ d (hw _ (below2 w _ _)) (by rfl)).mono ?_
  rintro e w1 ⟨rfl, hb1⟩
  have q0 := (hb1.block w.heap.size (by simp; omega)).trans (heap2a w _ _)
  have q1 := (hb1.block (w.heap.size + 1) (by simp)).trans (heap2 w _ _)
  have hs1 : w.heap.size + 2 ≤ w1.heap.size := by have := hb1.size; simp at this; omega
  have hB := (below2 w _ _).trans (hb1.mono (by simp; omega))
  have HQ := Lib.hid (And.intro q0 (And.intro q1 hB))
  have e0 := (cells_of_block q0).1
  have e1 := (cells_of_block q0).2.1
  have e2 := (cells_of_block q0).2.2.1
  have e3 := (cells_of_block q0).2.2.2.1
  have e4 := (cells_of_block q0).2.2.2.2.1
  have e5 := (cells_of_block q0).2.2.2.2.2.1
  have e6 := (cells_of_block q0).2.2.2.2.2.2.1
  have e7 := (cells_of_block q0).2.2.2.2.2.2.2.1
  have e8 := (cells_of_block q0).2.2.2.2.2.2.2.2
  have ez := free_of_block q0
  clear hb1 q0 q1 hB
  go_wp2_with fail
  obtain ⟨V, hV, n1, n2, n3⟩ := nineE (.int .i64 6) (.string ⟨#[]⟩) (.int .i64 0) (.int .i64 0) (.string ⟨#[]⟩) (.int .i64 0) (.slice none 0 0) (.slice none 0 0) (.slice (some ⟨a, 0, none⟩) 2 c) HQ.out.1
  rw [hV]
  refine (own_z V).mono ?_
  rintro e w2 ⟨rfl, hb2⟩
  have q0 : w2.heap[w.heap.size]? = some (Hd.obj ⟨6, ⟨#[]⟩, 0, some ⟨a, 0, none⟩, 2, c⟩) := (hb2.block w.heap.size (by omega)).trans n1
  have q1 := (hb2.block (w.heap.size + 1) (by omega)).trans ((n2.block (w.heap.size + 1) (by omega) (by simp)).trans HQ.out.2.1)
  have hB := (below_gb HQ.out.2.2 n2 (by omega) (by simp)).trans (hb2.mono (by omega))
  have hs2 : w.heap.size + 2 ≤ w2.heap.size := by have := hb2.size; omega
  clear e0 e1 e2 e3 e4 e5 e6 e7 e8 ez
  have HW := Lib.hid (And.intro q0 (And.intro q1 hB))
  have e0 := (cells_of_block q0).1
  have e1 := (cells_of_block q0).2.1
  have e2 := (cells_of_block q0).2.2.1
  have e3 := (cells_of_block q0).2.2.2.1
  have e4 := (cells_of_block q0).2.2.2.2.1
  have e5 := (cells_of_block q0).2.2.2.2.2.1
  have e6 := (cells_of_block q0).2.2.2.2.2.2.1
  have e7 := (cells_of_block q0).2.2.2.2.2.2.2.1
  have e8 := (cells_of_block q0).2.2.2.2.2.2.2.2
  have ez := free_of_block q0
  clear q0 q1 hB n1 n2 hb2
  go_wp2_with fail
  obtain ⟨U, hU, m1, m2, m3⟩ := fiveT HW.out.1
  rw [hU]
  have hBU := below_gb HW.out.2.2 m2 (by omega) (by simp)
  refine (clone2 _ a c k l (HR.out.2.2.1.move (hBU.block a ha)) (HR.out.2.2.2.move (hBU.block a ha))).mono ?_
  rintro e w3 ⟨g, gc, rfl, hown, hb3⟩
  have q0 := (hb3.block w.heap.size (by omega)).trans m1
  have q1 := (hb3.block (w.heap.size + 1) (by omega)).trans ((m2.block (w.heap.size + 1) (by omega) (by simp)).trans HW.out.2.1)
  have hB := hBU.trans (hb3.mono (by omega))
  have hs3 : w.heap.size + 2 ≤ w3.heap.size := by have := hb3.size; omega
  obtain ⟨hcap, hgg, hgl⟩ := own_cap hown
  obtain ⟨cs, hcs, hcn⟩ := own_block hown
  have hg2 : w.heap.size + 2 ≤ g := by omega
  have hA := at0_of_own (k := k) (r := l.cells) (by simpa using hown)
  have h9 := at9_of_own (k := k) (l := l) (r := []) (by simpa using hown)
  have ez := free_of_block q0
  clear e0 e1 e2 e3 e4 e5 e6 e7 e8
  have e0 := (cells_of_block q0).1
  have e1 := (cells_of_block q0).2.1
  have e2 := (cells_of_block q0).2.2.1
  have e3 := (cells_of_block q0).2.2.2.1
  have e4 := (cells_of_block q0).2.2.2.2.1
  have e5 := (cells_of_block q0).2.2.2.2.2.1
  have e6 := (cells_of_block q0).2.2.2.2.2.2.1
  have e7 := (cells_of_block q0).2.2.2.2.2.2.2.1
  have e8 := (cells_of_block q0).2.2.2.2.2.2.2.2
  have hq0 := q0
  clear hown hgg q0 m1 m2 hb3 hBU
  go_wp2
  refine wp_loop_rounds 3 ?_
  rw [rounds_succ]
  obtain ⟨X, hX⟩ : ∃ X, w3.setCell ⟨w.heap.size, 8, none⟩ (.slice (some ⟨g, 0, none⟩) 2 gc) = X := ⟨_, rfl⟩
  rw [hX]
  have t0 : X.heap[w.heap.size]? = some (Hd.obj ⟨6, ⟨#[]⟩, 0, some ⟨g, 0, none⟩, 2, gc⟩) := by rw [← hX]; exact Go.heap_setCell_same w3 w.heap.size 8 _ 31 (.slice (some ⟨g, 0, none⟩) 2 gc) hq0
  have t1 := (Go.heap_setCell_other w3 ⟨w.heap.size, 8, none⟩ (w.heap.size + 1) (.slice (some ⟨g, 0, none⟩) 2 gc) (by simp)).trans q1
  have tg := Go.heap_setCell_other w3 ⟨w.heap.size, 8, none⟩ g (.slice (some ⟨g, 0, none⟩) 2 gc) (by simp; omega)
  have hX3 : w3.heap.size ≤ X.heap.size := by rw [← hX]; simp [World.setCell]
  have hBX : Below w.heap.size w X := by rw [← hX]; exact below_gb hB (gb_set w3 w.heap.size 8 _) (by omega) (by simp)
  rw [hX] at t1 tg
  have hcX := tg.trans hcs
  have hAX := hA.move tg
  have h9X := h9.move tg
  clear h9
  clear e0 e1 e2 e3 e4 e5 e6 e7 e8 ez hX hq0 q1 hB hcs hA tg
  obtain ⟨o0, o1, o2, o3, o4, o5, o6, o7, o8⟩ := hAX
  have hAX : At0 X g k := ⟨o0, o1, o2, o3, o4, o5, o6, o7, o8⟩
  have hgX : g < X.heap.size := by omega
  go_wp2
  refine gen1 ?_
  intro W hbW hsW gW1
  have hsW' : X.heap.size + 1 ≤ W.heap.size := by omega
  clear hsW
  have t01 := (hbW.block w.heap.size (by omega)).trans t0
  have t11 := (hbW.block (w.heap.size + 1) (by omega)).trans t1
  have hcW := (hbW.block g hgX).trans hcX
  have hAW := hAX.move (hbW.block g hgX)
  have hBW := hBX.trans (hbW.mono (by omega))
  have hDW : Below w.heap.size w W.drew := hBW.drew
  have h9W := h9X.move (hbW.block g hgX)
  clear h9X
  clear o0 o1 o2 o3 o4 o5 o6 o7 o8 hAX hcX t0 t1
  refine G_begin (fun w' => W.grownBy w' (some g)) (by kernel_rfl) ?_
  refine G_take 0 8 rfl (by kernel_rfl) (fun _ _ _ h => h) (gb_some (gb_drew W)) (v := ?_) (.inl ⟨by rfl, ?_⟩) ?_
  rotate_left
  · intro w' hw'; go_simp; try with_reducible rfl
  refine G_take 1 8 rfl (by kernel_rfl) (fun _ _ _ h => h) (gb_some (gb_drew W)) (v := ?_) (.inl ⟨by rfl, ?_⟩) ?_
  rotate_left
  · intro w' hw'; have q := (cells_of_block ((hw'.block w.heap.size (by omega) (by simp; omega)).trans t01)).2.2.2.2.2.2.2.2; go_simp; try with_reducible rfl
  refine G_take 2 8 rfl (by kernel_rfl) (fun _ _ _ h => h) (gb_some (gb_drew W)) (v := ?_) (.inl ⟨by rfl, ?_⟩) ?_
  rotate_left
  · intro w' hw'; go_simp; try with_reducible rfl
  refine G_take 3 8 rfl (by kernel_rfl) (fun _ _ _ h => h) (gb_some (gb_drew W)) (v := ?_) (.inl ⟨by rfl, ?_⟩) ?_
  rotate_left
  · intro w' hw'; go_simp; try with_reducible rfl
  refine G_take 4 8 rfl (by kernel_rfl) (fun _ _ _ h => h) (gb_some (gb_drew W)) (v := ?_) (.inl ⟨by rfl, ?_⟩) ?_
  rotate_left
  · intro w' hw'; obtain ⟨e0, e1, e2, e3, e4, e5, e6, e7, e8⟩ := cells_of_block ((hw'.block X.heap.size (by omega) (by simp; try omega)).trans gW1); go_simp; try with_reducible rfl
  refine G_take 5 8 rfl (by kernel_rfl) (fun _ _ _ h => h) (gb_some (gb_drew W)) (v := ?_) (.inl ⟨by rfl, ?_⟩) ?_
  rotate_left
  · intro w' hw'; go_simp; try with_reducible rfl
  refine G_only 6 rfl (by kernel_rfl) ?_
  intro K hK
  go_simp
  refine (IH.out.1 _ _ k (HR.out.1.below hDW) (hw.later hDW) (fun z h1 h2 => ⟨h1, h2⟩)).mono ?_
  rintro e c1 ⟨z1, rfl, hr1, hb1⟩
  have hS1 : W.grownBy c1 none := gb_trans (gb_drew W) (gb_below hb1)
  refine hK _ _ ⟨(gb_some hS1), ?_⟩
  clear hK K
  refine G_take 7 8 rfl (by kernel_rfl) (fun _ _ _ h => h) (gb_some hS1) (v := ?_) (.inl ⟨by rfl, ?_⟩) ?_
  rotate_left
  · intro w' hw'; go_simp; try with_reducible rfl
  refine G_last 8 rfl (by kernel_rfl) (by kernel_rfl) ?_
  intro K hK
  have hg1 := (hS1.block g (by omega) (by simp)).trans hcW
  have fg := free_of_block hg1
  obtain ⟨o0, o1, o2, o3, o4, o5, o6, o7, o8⟩ := (hAW.move (hS1.block g (by omega) (by simp)))
  go_simp
  obtain ⟨V1, hV, hA1, hO1, hG1, hZ1, hVcs⟩ := store0c z1 hg1 (by omega)
  rw [hV]
  clear hV o0 o1 o2 o3 o4 o5 o6 o7 o8 fg hZ1
  refine hK _ _ ?_
  clear hK K
  have hc1 := hS1.size
  have hc2 := hG1.size
  have y0 := (hG1.block w.heap.size (by omega) (by simp; omega)).trans ((hS1.block w.heap.size (by omega) (by simp)).trans t01)
  have y1 := (hG1.block (w.heap.size + 1) (by omega) (by simp; omega)).trans ((hS1.block (w.heap.size + 1) (by omega) (by simp)).trans t11)
  have hBV : Below w.heap.size w V1 := below_gb (below_gb hBW hS1 (by omega) (by simp)) hG1 (by omega) (by simp; omega)
  have hRV := (hr1.bound.grown hG1 (by
    rintro z ⟨⟨_, hz⟩ | hz, _⟩ e
    · simp at e; omega
    · simp at e hz; omega)).imp (ok' := fun z => (ok z ∧ z < w.heap.size) ∨ (w.heap.size + 2 ≤ z ∧ z ≠ g)) (by
    rintro z ⟨hz | hz, _⟩ _
    · exact .inl hz
    · exact .inr (by simp at hz; omega))
  have h9V := hO1 l (h9W.move (hS1.block g (by omega) (by simp)))
  have hgV : g < V1.heap.size := by omega
  obtain ⟨csV, hcV, hcVn⟩ := hVcs
  have hvs : w.heap.size + 2 ≤ V1.heap.size := by omega
  obtain ⟨o0, o1, o2, o3, o4, o5, o6, o7, o8⟩ := h9V
  have h9V : At9 V1 g l := ⟨o0, o1, o2, o3, o4, o5, o6, o7, o8⟩
  clear t01 t11 hO1 hG1 hS1 hr1 hb1 hcW hAW hBW hDW gW1 hbW hg1 h9W
  go_wp2
  rw [rounds_succ]
  go_wp2
  refine gen1 ?_
  intro W2 hbW hsW gW2
  have hsW' : V1.heap.size + 1 ≤ W2.heap.size := by omega
  clear hsW
  have t02 := (hbW.block w.heap.size (by omega)).trans y0
  have t12 := (hbW.block (w.heap.size + 1) (by omega)).trans y1
  have hcW := (hbW.block g hgV).trans hcV
  have hAW := hA1.move (hbW.block g hgV)
  have h9W := h9V.move (hbW.block g hgV)
  have hBW := hBV.trans (hbW.mono (by omega))
  have hDW : Below w.heap.size w W2.drew := hBW.drew
  have hRW := hRV.below (hbW)
  clear o0 o1 o2 o3 o4 o5 o6 o7 o8 h9V hcV y0 y1 hbW hRV hBV hA1
  refine G_begin (fun w' => W2.grownBy w' (some g)) (by kernel_rfl) ?_
  refine G_take 0 8 rfl (by kernel_rfl) (fun _ _ _ h => h) (gb_some (gb_drew W2)) (v := ?_) (.inl ⟨by rfl, ?_⟩) ?_
  rotate_left
  · intro w' hw'; go_simp; try with_reducible rfl
  refine G_take 1 8 rfl (by kernel_rfl) (fun _ _ _ h => h) (gb_some (gb_drew W2)) (v := ?_) (.inl ⟨by rfl, ?_⟩) ?_
  rotate_left
  · intro w' hw'; have q := (cells_of_block ((hw'.block w.heap.size (by omega) (by simp; omega)).trans t02)).2.2.2.2.2.2.2.2; go_simp; try with_reducible rfl
  refine G_take 2 8 rfl (by kernel_rfl) (fun _ _ _ h => h) (gb_some (gb_drew W2)) (v := ?_) (.inl ⟨by rfl, ?_⟩) ?_
  rotate_left
  · intro w' hw'; go_simp; try with_reducible rfl
  refine G_take 3 8 rfl (by kernel_rfl) (fun _ _ _ h => h) (gb_some (gb_drew W2)) (v := ?_) (.inl ⟨by rfl, ?_⟩) ?_
  rotate_left
  · intro w' hw'; go_simp; try with_reducible rfl
  refine G_take 4 8 rfl (by kernel_rfl) (fun _ _ _ h => h) (gb_some (gb_drew W2)) (v := ?_) (.inl ⟨by rfl, ?_⟩) ?_
  rotate_left
  · intro w' hw'; obtain ⟨e0, e1, e2, e3, e4, e5, e6, e7, e8⟩ := cells_of_block ((hw'.block V1.heap.size (by omega) (by simp; try omega)).trans gW2); go_simp; try with_reducible rfl
  refine G_take 5 8 rfl (by kernel_rfl) (fun _ _ _ h => h) (gb_some (gb_drew W2)) (v := ?_) (.inl ⟨by rfl, ?_⟩) ?_
  rotate_left
  · intro w' hw'; go_simp; try with_reducible rfl
  refine G_only 6 rfl (by kernel_rfl) ?_
  intro K hK
  go_simp
  refine (IH.out.2 _ _ l (HR.out.2.1.below hDW) (hw.later hDW) (fun z h1 h2 => ⟨h1, h2⟩)).mono ?_
  rintro e c2 ⟨z2, rfl, hr2, hb2⟩
  have hS2 : W2.grownBy c2 none := gb_trans (gb_drew W2) (gb_below hb2)
  refine hK _ _ ⟨(gb_some hS2), ?_⟩
  clear hK K
  refine G_take 7 8 rfl (by kernel_rfl) (fun _ _ _ h => h) (gb_some hS2) (v := ?_) (.inl ⟨by rfl, ?_⟩) ?_
  rotate_left
  · intro w' hw'; go_simp; try with_reducible rfl
  refine G_last 8 rfl (by kernel_rfl) (by kernel_rfl) ?_
  intro K hK
  have hg2 := (hS2.block g (by omega) (by simp)).trans hcW
  have fg := free_of_block hg2
  obtain ⟨o0, o1, o2, o3, o4, o5, o6, o7, o8⟩ := (h9W.move (hS2.block g (by omega) (by simp)))
  go_simp
  obtain ⟨V2, hV, hA2, hO2, hG2, hZ2⟩ := store9 z2 hg2 (by omega)
  rw [hV]
  clear hV o0 o1 o2 o3 o4 o5 o6 o7 o8 fg hZ2
  refine hK _ _ ?_
  clear hK K
  have hc3 := hS2.size
  have hc4 := hG2.size
  have y0 := (hG2.block w.heap.size (by omega) (by simp; omega)).trans ((hS2.block w.heap.size (by omega) (by simp)).trans t02)
  have y1 := (hG2.block (w.heap.size + 1) (by omega) (by simp; omega)).trans ((hS2.block (w.heap.size + 1) (by omega) (by simp)).trans t12)
  have hBV : Below w.heap.size w V2 := below_gb (below_gb hBW hS2 (by omega) (by simp)) hG2 (by omega) (by simp; omega)
  have hRV := (hr2.bound.grown hG2 (by
    rintro z ⟨⟨_, hz⟩ | hz, _⟩ e
    · simp at e; omega
    · simp at e hz; omega)).imp (ok' := fun z => (ok z ∧ z < w.heap.size) ∨ (w.heap.size + 2 ≤ z ∧ z ≠ g)) (by
    rintro z ⟨hz | hz, _⟩ _
    · exact .inl hz
    · exact .inr (by simp at hz; omega))
  have hRU := (hRW.grown hS2 (by simp)).grown hG2 (by
    rintro z (⟨_, hz⟩ | hz) e <;> simp at e <;> omega)
  have hA0 := hO2 z1 (hAW.move (hS2.block g (by omega) (by simp)))
  have HF := Lib.hid (And.intro hBV (And.intro hRU (And.intro hRV (And.intro hA0 hA2))))
  have e0 := (cells_of_block y0).1
  have e1 := (cells_of_block y0).2.1
  have e2 := (cells_of_block y0).2.2.1
  have e3 := (cells_of_block y0).2.2.2.1
  have e4 := (cells_of_block y0).2.2.2.2.1
  have e5 := (cells_of_block y0).2.2.2.2.2.1
  have e6 := (cells_of_block y0).2.2.2.2.2.2.1
  have e7 := (cells_of_block y0).2.2.2.2.2.2.2.1
  have e8 := (cells_of_block y0).2.2.2.2.2.2.2.2
  have f0 := (cells_of_block y1).1
  have f1 := (cells_of_block y1).2.1
  have f2 := (cells_of_block y1).2.2.1
  have f3 := (cells_of_block y1).2.2.2.1
  have f4 := (cells_of_block y1).2.2.2.2.1
  have f5 := (cells_of_block y1).2.2.2.2.2.1
  have f6 := (cells_of_block y1).2.2.2.2.2.2.1
  have f7 := (cells_of_block y1).2.2.2.2.2.2.2.1
  have f8 := (cells_of_block y1).2.2.2.2.2.2.2.2
  have fz := free_of_block y1
  have hgV2 : g < V2.heap.size := by omega
  clear y0 t02 t12 hBV hRV hRU hA0 hA2 hO2 hG2 hS2 hr2 hb2 hcW hAW hBW hDW gW2 h9W hRW
  go_wp2
  rw [rounds_succ]
  go_wp2
  refine end9 ⟨6, ⟨#[]⟩, 0, some ⟨g, 0, none⟩, 2, gc⟩ rfl (by rfl) rfl y1 (fun F hF _ => ⟨_, rfl, ⟨g, gc, z1, z2, rfl, .inr (by omega), hcap, HF.out.2.2.2.1.move (hF.block g hgV2 (by simp; omega)), HF.out.2.2.2.2.move (hF.block g hgV2 (by simp; omega)), (HF.out.2.1.grown hF ?_).imp ?_, (HF.out.2.2.1.grown hF ?_).imp ?_⟩, below_gb HF.out.1 hF (by omega) (by simp)⟩)
  · rintro z (⟨_, hz⟩ | hz) e
    · simp at e; omega
    · simp at e; omega
  · rintro z (⟨hz, _⟩ | hz) _
    · exact .inl hz
    · exact .inr (by omega)
  · rintro z (⟨_, hz⟩ | hz) e
    · simp at e; omega
    · simp at e; omega
  · rintro z (⟨hz, _⟩ | hz) _
    · exact .inl hz
    · exact .inr (by omega)

end Go.Proofs.Ytogdjjleclbgcaa
