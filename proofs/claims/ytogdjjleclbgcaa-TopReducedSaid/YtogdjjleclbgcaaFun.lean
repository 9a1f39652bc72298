/- tileFun: function 9. -/
import Derived.Test.YtogdjjleclbgcaaApps
namespace Go.Proofs.Ytogdjjleclbgcaa
open Go.RowKit

theorem L.absN_succ (b : L) (n : Nat) : b.absN (n + 1) = .abs (b.absN n) := by
  induction n generalizing b with
  | zero => rfl
  | succ n ih => show (L.abs b).absN (n + 1) = _; rw [ih]; rfl

set_option maxRecDepth 100000 in
set_option maxHeartbeats 800000 in
theorem fun0 (b : L) (n : Nat) (hn : n < 1000000) (w : World) (ok : Nat → Prop) (k : Hd) (hr : Rep w ok b k)  : Calls Try.prog 9 #[.int .i64 n, k.val, .slice none 0 0] w (Gives w ok (b.absN n)) := by
  have HR := Lib.hid hr.bound
  clear hr
  go_enter Try.func9, Try.ntmps9
  go_wp2
  go_loopw [8] (fun v wr => ∃ (i : Nat) (q : Hd), v = .int .i64 i ∧ i ≤ n ∧ wr.heap[w.heap.size]? = some q.obj ∧ wr.heap[w.heap.size + 1]? = some (Hd.obj ⟨0, ⟨#[]⟩, 0, none, 0, 0⟩) ∧ Below w.heap.size w wr ∧ w.heap.size + 2 ≤ wr.heap.size ∧
      Rep wr (fun z => (ok z ∧ z < w.heap.size) ∨ w.heap.size + 2 ≤ z) (b.absN i) q) (fun v _ => n - (intOf v).toNat)
  case atStart =>
    exact ⟨0, k, rfl, by omega, (by repeat first | exact new_at _ _ _ (by simp) | rw [Below.heap_alloc _ _ _ (by first | (simp; done) | (simp; omega))]), (by repeat first | exact new_at _ _ _ (by simp) | rw [Below.heap_alloc _ _ _ (by first | (simp; done) | (simp; omega))]), below2 w _ _, by simp, (HR.out.below (below2 w _ _)).imp fun _ h _ => .inl h⟩
  case round =>
    obtain ⟨i, q, rfl, hi, hq, hz, hB, hs, hR⟩ := hrel
    obtain ⟨e0, e1, e2, e3, e4, e5, e6, e7, e8⟩ := cells_of_block hq
    have ez := free_of_block hq
    have hlt : w.heap.size < wr.heap.size := by omega
    have H := Lib.hid (And.intro hq (And.intro hz (And.intro hB hR)))
    by_cases hin : i < n
    · clear hq hz hB hR
      go_wp2
      go_roundw
      case rel =>
        obtain ⟨hq, hz, hB, hR⟩ := H.out
        obtain ⟨V, hV, n1, n2, hsz⟩ := nineE (.int .i64 5) (.string ⟨#[]⟩) (.int .i64 0) (.int .i64 0) (.string ⟨#[]⟩) (.int .i64 0) (.slice none 0 0) (.slice none 0 0) (.slice (some ⟨wr.heap.size, 0, none⟩) 1 1) hq
        have n3 := n2.size
        rw [hV]
        clear hV
        have hb := alloc_below V q.obj
        have hn' : (V.alloc q.obj).heap[wr.heap.size]? = some q.obj := new_at V _ _ hsz.symm
        have hR' := ((hR.bound.grown n2 (by rintro z ⟨⟨_, hz⟩ | hz, _⟩ e <;> simp at e <;> omega)).below hb)
        refine ⟨i + 1, ⟨5, ⟨#[]⟩, 0, some ⟨wr.heap.size, 0, none⟩, 1, 1⟩, by go_num, by omega, (hb.block _ (by omega)).trans n1, (hb.block _ (by omega)).trans ((n2.block _ (by omega) (by simp)).trans hz),
          below_gb (below_gb hB n2 (by omega) (by simp)) (gb_below hb) (by omega) (by simp), by simp; omega, ?_⟩
        rw [L.absN_succ]
        exact rep_abs hn' (by omega) (.inr (by omega)) (hR'.imp fun z h _ => h.1)
      case measure => simp [intOf]; omega
    · obtain rfl : i = n := by omega
      have HZ := Lib.hid (And.intro hR (And.intro hB hz))
      clear hR hB hz hq
      go_wp2_with (go_at_call 7; refine (apps0 (b.absN i) wr _ q HZ.out.1).mono ?_; rintro e w1 ⟨k1, rfl, hr1, hb1⟩; have p1 := (hb1.block (w.heap.size + 1) (by omega)).trans HZ.out.2.2; obtain ⟨f0, f1, f2, f3, f4, f5, f6, f7, f8⟩ := cells_of_block p1; have fz := free_of_block p1; have HQ := Lib.hid (And.intro hr1 hb1); clear hr1 hb1)
      refine end9 k1 rfl (by rfl) rfl p1 (fun F hF _ => ⟨k1, rfl, ?_, ?_⟩)
      · refine (HQ.out.1.grown hF ?_).imp ?_
        · rintro z ((⟨_, hz⟩ | hz) | hz) e <;> simp at e <;> omega
        · rintro z ((⟨hz, _⟩ | hz) | hz) _
          · exact .inl hz
          · exact .inr (by omega)
          · exact .inr (by omega)
      · exact below_gb (below_gb HZ.out.2.1 (gb_below HQ.out.2) (by omega) (by simp)) hF (by have := HQ.out.2.size; omega) (by simp)


set_option maxRecDepth 100000 in
set_option maxHeartbeats 800000 in
theorem fun1 (b : L) (n : Nat) (hn : n < 1000000) (w : World) (ok : Nat → Prop) (k : Hd) (hr : Rep w ok b k) (x : L) (l : Hd) (a c : Nat) (hx : Rep w ok x l) (h0 : At0 w a l) : Calls Try.prog 9 #[.int .i64 n, k.val, .slice (some ⟨a, 0, none⟩) 1 c] w (Gives w ok (.app (b.absN n) x)) := by
  have HR := Lib.hid hr.bound
  clear hr
  have HX := Lib.hid (And.intro hx.bound h0)
  have ha := h0.lt
  clear hx h0
  go_enter Try.func9, Try.ntmps9
  go_wp2
  go_loopw [8] (fun v wr => ∃ (i : Nat) (q : Hd), v = .int .i64 i ∧ i ≤ n ∧ wr.heap[w.heap.size]? = some q.obj ∧ wr.heap[w.heap.size + 1]? = some (Hd.obj ⟨0, ⟨#[]⟩, 0, none, 0, 0⟩) ∧ Below w.heap.size w wr ∧ w.heap.size + 2 ≤ wr.heap.size ∧
      Rep wr (fun z => (ok z ∧ z < w.heap.size) ∨ w.heap.size + 2 ≤ z) (b.absN i) q) (fun v _ => n - (intOf v).toNat)
  case atStart =>
    exact ⟨0, k, rfl, by omega, (by repeat first | exact new_at _ _ _ (by simp) | rw [Below.heap_alloc _ _ _ (by first | (simp; done) | (simp; omega))]), (by repeat first | exact new_at _ _ _ (by simp) | rw [Below.heap_alloc _ _ _ (by first | (simp; done) | (simp; omega))]), below2 w _ _, by simp, (HR.out.below (below2 w _ _)).imp fun _ h _ => .inl h⟩
  case round =>
    obtain ⟨i, q, rfl, hi, hq, hz, hB, hs, hR⟩ := hrel
    obtain ⟨e0, e1, e2, e3, e4, e5, e6, e7, e8⟩ := cells_of_block hq
    have ez := free_of_block hq
    have hlt : w.heap.size < wr.heap.size := by omega
    have H := Lib.hid (And.intro hq (And.intro hz (And.intro hB hR)))
    by_cases hin : i < n
    · clear hq hz hB hR
      go_wp2
      go_roundw
      case rel =>
        obtain ⟨hq, hz, hB, hR⟩ := H.out
        obtain ⟨V, hV, n1, n2, hsz⟩ := nineE (.int .i64 5) (.string ⟨#[]⟩) (.int .i64 0) (.int .i64 0) (.string ⟨#[]⟩) (.int .i64 0) (.slice none 0 0) (.slice none 0 0) (.slice (some ⟨wr.heap.size, 0, none⟩) 1 1) hq
        have n3 := n2.size
        rw [hV]
        clear hV
        have hb := alloc_below V q.obj
        have hn' : (V.alloc q.obj).heap[wr.heap.size]? = some q.obj := new_at V _ _ hsz.symm
        have hR' := ((hR.bound.grown n2 (by rintro z ⟨⟨_, hz⟩ | hz, _⟩ e <;> simp at e <;> omega)).below hb)
        refine ⟨i + 1, ⟨5, ⟨#[]⟩, 0, some ⟨wr.heap.size, 0, none⟩, 1, 1⟩, by go_num, by omega, (hb.block _ (by omega)).trans n1, (hb.block _ (by omega)).trans ((n2.block _ (by omega) (by simp)).trans hz),
          below_gb (below_gb hB n2 (by omega) (by simp)) (gb_below hb) (by omega) (by simp), by simp; omega, ?_⟩
        rw [L.absN_succ]
        exact rep_abs hn' (by omega) (.inr (by omega)) (hR'.imp fun z h _ => h.1)
      case measure => simp [intOf]; omega
    · obtain rfl : i = n := by omega
      have HZ := Lib.hid (And.intro hR (And.intro hB hz))
      clear hR hB hz hq
      go_wp2_with (go_at_call 7; refine (apps1 (b.absN i) x wr (fun z => (ok z ∧ z < w.heap.size) ∨ w.heap.size + 2 ≤ z) q l a c HZ.out.1 ((HX.out.1.below HZ.out.2.1).imp fun _ h _ => .inl h) (HX.out.2.move (HZ.out.2.1.block a ha))).mono ?_; rintro e w1 ⟨k1, rfl, hr1, hb1⟩; have p1 := (hb1.block (w.heap.size + 1) (by omega)).trans HZ.out.2.2; obtain ⟨f0, f1, f2, f3, f4, f5, f6, f7, f8⟩ := cells_of_block p1; have fz := free_of_block p1; have HQ := Lib.hid (And.intro hr1 hb1); clear hr1 hb1)
      refine end9 k1 rfl (by rfl) rfl p1 (fun F hF _ => ⟨k1, rfl, ?_, ?_⟩)
      · refine (HQ.out.1.grown hF ?_).imp ?_
        · rintro z ((⟨_, hz⟩ | hz) | hz) e <;> simp at e <;> omega
        · rintro z ((⟨hz, _⟩ | hz) | hz) _
          · exact .inl hz
          · exact .inr (by omega)
          · exact .inr (by omega)
      · exact below_gb (below_gb HZ.out.2.1 (gb_below HQ.out.2) (by omega) (by simp)) hF (by have := HQ.out.2.size; omega) (by simp)


set_option maxRecDepth 100000 in
set_option maxHeartbeats 800000 in
theorem fun2 (b : L) (n : Nat) (hn : n < 1000000) (w : World) (ok : Nat → Prop) (k : Hd) (hr : Rep w ok b k) (x y : L) (l m : Hd) (a c : Nat) (hx : Rep w ok x l) (hy : Rep w ok y m) (h0 : At0 w a l) (h9 : At9 w a m) : Calls Try.prog 9 #[.int .i64 n, k.val, .slice (some ⟨a, 0, none⟩) 2 c] w (Gives w ok (.app (.app (b.absN n) x) y)) := by
  have HR := Lib.hid hr.bound
  clear hr
  have HX := Lib.hid (And.intro hx.bound (And.intro h0 (And.intro hy.bound h9)))
  have ha := h0.lt
  clear hx h0 hy h9
  go_enter Try.func9, Try.ntmps9
  go_wp2
  go_loopw [8] (fun v wr => ∃ (i : Nat) (q : Hd), v = .int .i64 i ∧ i ≤ n ∧ wr.heap[w.heap.size]? = some q.obj ∧ wr.heap[w.heap.size + 1]? = some (Hd.obj ⟨0, ⟨#[]⟩, 0, none, 0, 0⟩) ∧ Below w.heap.size w wr ∧ w.heap.size + 2 ≤ wr.heap.size ∧
      Rep wr (fun z => (ok z ∧ z < w.heap.size) ∨ w.heap.size + 2 ≤ z) (b.absN i) q) (fun v _ => n - (intOf v).toNat)
  case atStart =>
    exact ⟨0, k, rfl, by omega, (by repeat first | exact new_at _ _ _ (by simp) | rw [Below.heap_alloc _ _ _ (by first | (simp; done) | (simp; omega))]), (by repeat first | exact new_at _ _ _ (by simp) | rw [Below.heap_alloc _ _ _ (by first | (simp; done) | (simp; omega))]), below2 w _ _, by simp, (HR.out.below (below2 w _ _)).imp fun _ h _ => .inl h⟩
  case round =>
    obtain ⟨i, q, rfl, hi, hq, hz, hB, hs, hR⟩ := hrel
    obtain ⟨e0, e1, e2, e3, e4, e5, e6, e7, e8⟩ := cells_of_block hq
    have ez := free_of_block hq
    have hlt : w.heap.size < wr.heap.size := by omega
    have H := Lib.hid (And.intro hq (And.intro hz (And.intro hB hR)))
    by_cases hin : i < n
    · clear hq hz hB hR
      go_wp2
      go_roundw
      case rel =>
        obtain ⟨hq, hz, hB, hR⟩ := H.out
        obtain ⟨V, hV, n1, n2, hsz⟩ := nineE (.int .i64 5) (.string ⟨#[]⟩) (.int .i64 0) (.int .i64 0) (.string ⟨#[]⟩) (.int .i64 0) (.slice none 0 0) (.slice none 0 0) (.slice (some ⟨wr.heap.size, 0, none⟩) 1 1) hq
        have n3 := n2.size
        rw [hV]
        clear hV
        have hb := alloc_below V q.obj
        have hn' : (V.alloc q.obj).heap[wr.heap.size]? = some q.obj := new_at V _ _ hsz.symm
        have hR' := ((hR.bound.grown n2 (by rintro z ⟨⟨_, hz⟩ | hz, _⟩ e <;> simp at e <;> omega)).below hb)
        refine ⟨i + 1, ⟨5, ⟨#[]⟩, 0, some ⟨wr.heap.size, 0, none⟩, 1, 1⟩, by go_num, by omega, (hb.block _ (by omega)).trans n1, (hb.block _ (by omega)).trans ((n2.block _ (by omega) (by simp)).trans hz),
          below_gb (below_gb hB n2 (by omega) (by simp)) (gb_below hb) (by omega) (by simp), by simp; omega, ?_⟩
        rw [L.absN_succ]
        exact rep_abs hn' (by omega) (.inr (by omega)) (hR'.imp fun z h _ => h.1)
      case measure => simp [intOf]; omega
    · obtain rfl : i = n := by omega
      have HZ := Lib.hid (And.intro hR (And.intro hB hz))
      clear hR hB hz hq
      go_wp2_with (go_at_call 7; refine (apps2 (b.absN i) x y wr (fun z => (ok z ∧ z < w.heap.size) ∨ w.heap.size + 2 ≤ z) q l m a c HZ.out.1 ((HX.out.1.below HZ.out.2.1).imp fun _ h _ => .inl h) ((HX.out.2.2.1.below HZ.out.2.1).imp fun _ h _ => .inl h) (HX.out.2.1.move (HZ.out.2.1.block a ha)) (HX.out.2.2.2.move (HZ.out.2.1.block a ha))).mono ?_; rintro e w1 ⟨k1, rfl, hr1, hb1⟩; have p1 := (hb1.block (w.heap.size + 1) (by omega)).trans HZ.out.2.2; obtain ⟨f0, f1, f2, f3, f4, f5, f6, f7, f8⟩ := cells_of_block p1; have fz := free_of_block p1; have HQ := Lib.hid (And.intro hr1 hb1); clear hr1 hb1)
      refine end9 k1 rfl (by rfl) rfl p1 (fun F hF _ => ⟨k1, rfl, ?_, ?_⟩)
      · refine (HQ.out.1.grown hF ?_).imp ?_
        · rintro z ((⟨_, hz⟩ | hz) | hz) e <;> simp at e <;> omega
        · rintro z ((⟨hz, _⟩ | hz) | hz) _
          · exact .inl hz
          · exact .inr (by omega)
          · exact .inr (by omega)
      · exact below_gb (below_gb HZ.out.2.1 (gb_below HQ.out.2) (by omega) (by simp)) hF (by have := HQ.out.2.size; omega) (by simp)


end Go.Proofs.Ytogdjjleclbgcaa
