/- tileBound, tileApps: functions 17 and 7. -/
import Derived.Test.YtogdjjleclbgcaaMore
namespace Go.Proofs.Ytogdjjleclbgcaa
open Go.RowKit

set_option maxRecDepth 100000 in
set_option maxHeartbeats 800000 in
theorem bound_calls (n : Int) (j : Nat) (hn : n = j) (w : World) (ok : Nat → Prop) : Calls Try.prog 17 #[.int .i64 n] w (Gives w ok (.bnd j)) := by
  have H := Lib.hid hn
  clear hn
  go_enter Try.func17, Try.ntmps17
  go_wp2
  exact end_row ⟨4, ⟨#[]⟩, n, none, 0, 0⟩ rfl (by rfl) rfl (Go.heap_alloc_new w _) ⟨_, rfl, by rw [H.out]; rfl, alloc_below w _⟩

set_option maxRecDepth 100000 in
set_option maxHeartbeats 800000 in
theorem apps0 (f : L) (w : World) (ok : Nat → Prop) (k : Hd) (hr : Rep w ok f k) : Calls Try.prog 7 #[k.val, .slice none 0 0] w (Gives w ok f) := by
  have HR := Lib.hid hr
  clear hr
  go_enter Try.func7, Try.ntmps7
  go_wp2
  refine wp_loop_rounds 1 ?_
  rw [rounds_succ]
  go_wp2
  exact end_row k rfl (by rfl) rfl (heap2 w _ _) ⟨k, rfl, (HR.out.below (below2 w _ _)).imp (fun _ h _ => .inl h), below2 w _ _⟩

set_option maxRecDepth 100000 in
set_option maxHeartbeats 800000 in
theorem apps1 (f x : L) (w : World) (ok : Nat → Prop) (k l : Hd) (a c : Nat) (hr : Rep w ok f k) (hx : Rep w ok x l) (h0 : At0 w a l) : Calls Try.prog 7 #[k.val, .slice (some ⟨a, 0, none⟩) 1 c] w (Gives w ok (.app f x)) := by
  have HR := Lib.hid (And.intro hr hx)
  have ha := h0.lt
  obtain ⟨ha1, ha2, ha3, ha4, ha5, ha6⟩ := lts ha
  obtain ⟨c0, c1, c2, c3, c4, c5, c6, c7, c8⟩ := h0
  clear hr hx
  go_enter Try.func7, Try.ntmps7
  go_wp2
  refine wp_loop_rounds 2 ?_
  rw [rounds_succ]
  go_wp2
  rw [rounds_succ]
  go_wp2
  exact end_row ⟨6, ⟨#[]⟩, 0, some ⟨w.heap.size + 1 + 1 + 1, 0, none⟩, 2, 2⟩ rfl (by rfl) rfl (by repeat first | exact new_at _ _ _ (by simp) | rw [Below.heap_alloc _ _ _ (by first | (simp; done) | (simp; omega))])
    ⟨_, rfl, rep_app (k := k) (l := l) (by repeat first | exact new_at _ _ _ (by simp) | rw [Below.heap_alloc _ _ _ (by first | (simp; done) | (simp; omega))]) (by omega) (.inr (by omega)) (HR.out.1.or (below4 w _ _ _ _)) (HR.out.2.or (below4 w _ _ _ _)), below4 w _ _ _ _⟩

set_option maxRecDepth 100000 in
set_option maxHeartbeats 800000 in
theorem apps2 (f x y : L) (w : World) (ok : Nat → Prop) (k l m : Hd) (a c : Nat) (hr : Rep w ok f k) (hx : Rep w ok x l) (hy : Rep w ok y m) (h0 : At0 w a l) (h9 : At9 w a m) : Calls Try.prog 7 #[k.val, .slice (some ⟨a, 0, none⟩) 2 c] w (Gives w ok (.app (.app f x) y)) := by
  have HR := Lib.hid (And.intro hr (And.intro hx hy))
  have ha := h0.lt
  obtain ⟨ha1, ha2, ha3, ha4, ha5, ha6⟩ := lts ha
  obtain ⟨c0, c1, c2, c3, c4, c5, c6, c7, c8⟩ := h0
  obtain ⟨d0, d1, d2, d3, d4, d5, d6, d7, d8⟩ := h9
  clear hr hx hy
  go_enter Try.func7, Try.ntmps7
  go_wp2
  refine wp_loop_rounds 3 ?_
  rw [rounds_succ]
  go_wp2
  rw [rounds_succ]
  go_wp2
  rw [rounds_succ]
  go_wp2
  exact end_row ⟨6, ⟨#[]⟩, 0, some ⟨w.heap.size + 1 + 1 + 1 + 1 + 1, 0, none⟩, 2, 2⟩ rfl (by rfl) rfl (by repeat first | exact new_at _ _ _ (by simp) | rw [Below.heap_alloc _ _ _ (by first | (simp; done) | (simp; omega))])
    ⟨_, rfl, rep_app (k := ⟨6, ⟨#[]⟩, 0, some ⟨w.heap.size + 1 + 1 + 1, 0, none⟩, 2, 2⟩) (l := m) (by repeat first | exact new_at _ _ _ (by simp) | rw [Below.heap_alloc _ _ _ (by first | (simp; done) | (simp; omega))]) (by omega) (.inr (by omega))
      (rep_app (k := k) (l := l) (by repeat first | exact new_at _ _ _ (by simp) | rw [Below.heap_alloc _ _ _ (by first | (simp; done) | (simp; omega))]) (by omega) (.inr (by omega)) (HR.out.1.or (below6 w _ _ _ _ _ _)) (HR.out.2.1.or (below6 w _ _ _ _ _ _)))
      (HR.out.2.2.or (below6 w _ _ _ _ _ _)), below6 w _ _ _ _ _ _⟩

end Go.Proofs.Ytogdjjleclbgcaa
