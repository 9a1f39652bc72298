/- slices.CompareFunc on the kids of two terms. -/
import Derived.Test.YtogdjjleclbgcaaComp
namespace Go.Proofs.Ytogdjjleclbgcaa
open Go.RowKit

/-- An answer of a comparison. -/
def Ans (P : Int → Prop) (w : World) (e : Ending) (w' : World) : Prop := ∃ r : Int, e = .returned (.int .i64 r) ∧ P r ∧ Below w.heap.size w w'

set_option maxRecDepth 100000 in
set_option maxHeartbeats 800000 in
theorem kids_0 (n c : Nat) (hn : n ≤ 2) (A : Option Addr) (w : World) : Calls Try.prog 34 #[.slice none 0 0, .slice A n c, .func (.func 25) #[] #[]] w (Ans (fun r => n = 0 → r = 0) w) := by
  by_cases h : n = 0
  · subst h
    go_enter Try.func34, Try.ntmps34
    go_wp2
    refine wp_loop_rounds 1 ?_
    rw [rounds_succ]
    go_wp2
    go_ret
    exact ⟨0, rfl, fun _ => rfl, Below.refl _ _⟩
  · have h1 : 0 < n := by omega
    go_enter Try.func34, Try.ntmps34
    go_wp2
    refine wp_loop_rounds 1 ?_
    rw [rounds_succ]
    go_wp2
    go_ret
    exact ⟨-1, rfl, fun h' => absurd h' h, Below.refl _ _⟩

set_option maxRecDepth 100000 in
set_option maxHeartbeats 800000 in
theorem kids_s0 (n c : Nat) (hn : 1 ≤ n) (hn' : n ≤ 2) (a : Nat) (k : Hd) (w : World) (h0 : At0 w a k) : Calls Try.prog 34 #[.slice (some ⟨a, 0, none⟩) n c, .slice none 0 0, .func (.func 25) #[] #[]] w (Ans (fun _ => True) w) := by
  obtain ⟨e0, e1, e2, e3, e4, e5, e6, e7, e8⟩ := h0
  go_enter Try.func34, Try.ntmps34
  go_wp2
  refine wp_loop_rounds 1 ?_
  rw [rounds_succ]
  go_wp2
  go_ret
  exact ⟨1, rfl, trivial, alloc_below _ _⟩

set_option maxRecDepth 100000 in
set_option maxHeartbeats 800000 in
theorem kids_11 (c c' a g : Nat) (k l : Hd) (P : Int → Prop) (w : World) (h0 : At0 w a k) (h1 : At0 w g l)
    (hc : ∀ w', Below w.heap.size w w' → Calls Try.prog 25 #[k.val, l.val] w' (Ans P w')) : Calls Try.prog 34 #[.slice (some ⟨a, 0, none⟩) 1 c, .slice (some ⟨g, 0, none⟩) 1 c', .func (.func 25) #[] #[]] w (Ans P w) := by
  have HK := Lib.hid hc
  clear hc
  obtain ⟨a1, a2, a3, a4, a5, a6⟩ := lts h0.lt
  obtain ⟨g1, g2, g3, g4, g5, g6⟩ := lts h1.lt
  have ha := h0.lt
  have hg := h1.lt
  obtain ⟨e0, e1, e2, e3, e4, e5, e6, e7, e8⟩ := h0
  obtain ⟨f0, f1, f2, f3, f4, f5, f6, f7, f8⟩ := h1
  go_enter Try.func34, Try.ntmps34
  go_wp2
  refine wp_loop_rounds 2 ?_
  rw [rounds_succ]
  go_wp2_with fail
  refine (HK.out _ (below2 w _ _)).mono ?_
  rintro e w1 ⟨r, rfl, hr, hb⟩
  have hB := (below2 w _ _).trans (hb.mono (by simp; omega))
  clear hb
  by_cases hz : r = 0
  · subst hz
    go_wp2
    rw [rounds_succ]
    go_wp2
    go_ret
    exact ⟨0, rfl, hr, hB⟩
  · have hz' : (r != 0) = true := by simpa using hz
    go_wp2
    go_ret
    exact ⟨r, rfl, hr, hB⟩
set_option maxRecDepth 100000 in
set_option maxHeartbeats 800000 in
theorem kids_12 (c c' a g : Nat) (k l : Hd) (P : Int → Prop) (w : World) (h0 : At0 w a k) (h1 : At0 w g l)
    (hc : ∀ w', Below w.heap.size w w' → Calls Try.prog 25 #[k.val, l.val] w' (Ans P w')) : Calls Try.prog 34 #[.slice (some ⟨a, 0, none⟩) 1 c, .slice (some ⟨g, 0, none⟩) 2 c', .func (.func 25) #[] #[]] w (Ans (fun _ => True) w) := by
  have HK := Lib.hid hc
  clear hc
  obtain ⟨a1, a2, a3, a4, a5, a6⟩ := lts h0.lt
  obtain ⟨g1, g2, g3, g4, g5, g6⟩ := lts h1.lt
  have ha := h0.lt
  have hg := h1.lt
  obtain ⟨e0, e1, e2, e3, e4, e5, e6, e7, e8⟩ := h0
  obtain ⟨f0, f1, f2, f3, f4, f5, f6, f7, f8⟩ := h1
  go_enter Try.func34, Try.ntmps34
  go_wp2
  refine wp_loop_rounds 2 ?_
  rw [rounds_succ]
  go_wp2_with fail
  refine (HK.out _ (below2 w _ _)).mono ?_
  rintro e w1 ⟨r, rfl, hr, hb⟩
  have hB := (below2 w _ _).trans (hb.mono (by simp; omega))
  clear hb
  by_cases hz : r = 0
  · subst hz
    go_wp2
    rw [rounds_succ]
    go_wp2
    go_ret
    exact ⟨-1, rfl, trivial, hB⟩
  · have hz' : (r != 0) = true := by simpa using hz
    go_wp2
    go_ret
    exact ⟨r, rfl, trivial, hB⟩

set_option maxRecDepth 100000 in
set_option maxHeartbeats 800000 in
theorem kids_21 (c c' a g : Nat) (k k2 l : Hd) (P : Int → Prop) (w : World) (h0 : At0 w a k) (h9 : At9 w a k2) (h1 : At0 w g l)
    (hc : ∀ w', Below w.heap.size w w' → Calls Try.prog 25 #[k.val, l.val] w' (Ans P w')) : Calls Try.prog 34 #[.slice (some ⟨a, 0, none⟩) 2 c, .slice (some ⟨g, 0, none⟩) 1 c', .func (.func 25) #[] #[]] w (Ans (fun _ => True) w) := by
  have H9 := Lib.hid (And.intro h9 trivial)
  clear h9
  have HK := Lib.hid hc
  clear hc
  obtain ⟨a1, a2, a3, a4, a5, a6⟩ := lts h0.lt
  obtain ⟨g1, g2, g3, g4, g5, g6⟩ := lts h1.lt
  have ha := h0.lt
  have hg := h1.lt
  obtain ⟨e0, e1, e2, e3, e4, e5, e6, e7, e8⟩ := h0
  obtain ⟨f0, f1, f2, f3, f4, f5, f6, f7, f8⟩ := h1
  go_enter Try.func34, Try.ntmps34
  go_wp2
  refine wp_loop_rounds 2 ?_
  rw [rounds_succ]
  go_wp2_with fail
  refine (HK.out _ (below2 w _ _)).mono ?_
  rintro e w1 ⟨r, rfl, hr, hb⟩
  have hB := (below2 w _ _).trans (hb.mono (by simp; omega))
  clear hb
  by_cases hz : r = 0
  · subst hz
    have hA : At9 w1 a k2 := H9.out.1.move (hB.block a ha)
    obtain ⟨p1, p2, p3, p4, p5, p6⟩ := lts (show a < w1.heap.size by have := hB.size; omega)
    clear e0 e1 e2 e3 e4 e5 e6 e7 e8 f0 f1 f2 f3 f4 f5 f6 f7 f8 a1 a2 a3 a4 a5 a6 g1 g2 g3 g4 g5 g6
    obtain ⟨e0, e1, e2, e3, e4, e5, e6, e7, e8⟩ := hA
    go_wp2
    rw [rounds_succ]
    go_wp2
    go_ret
    exact ⟨1, rfl, trivial, hB.trans ((alloc_below w1 _).mono (by have := hB.size; omega))⟩
  · have hz' : (r != 0) = true := by simpa using hz
    go_wp2
    go_ret
    exact ⟨r, rfl, trivial, hB⟩

set_option maxRecDepth 100000 in
set_option maxHeartbeats 800000 in
theorem kids_22 (c c' a g : Nat) (k k2 l l2 : Hd) (P Q : Int → Prop) (w : World) (h0 : At0 w a k) (h9 : At9 w a k2) (h1 : At0 w g l) (h19 : At9 w g l2)
    (hc : ∀ w', Below w.heap.size w w' → Calls Try.prog 25 #[k.val, l.val] w' (Ans P w')) (hc2 : ∀ w', Below w.heap.size w w' → Calls Try.prog 25 #[k2.val, l2.val] w' (Ans Q w')) :
    Calls Try.prog 34 #[.slice (some ⟨a, 0, none⟩) 2 c, .slice (some ⟨g, 0, none⟩) 2 c', .func (.func 25) #[] #[]] w (Ans (fun r => (P r ∧ r ≠ 0) ∨ (P 0 ∧ Q r)) w) := by
  have H9 := Lib.hid (And.intro h9 h19)
  have H2 := Lib.hid hc2
  clear h9 h19 hc2
  have HK := Lib.hid hc
  clear hc
  obtain ⟨a1, a2, a3, a4, a5, a6⟩ := lts h0.lt
  obtain ⟨g1, g2, g3, g4, g5, g6⟩ := lts h1.lt
  have ha := h0.lt
  have hg := h1.lt
  obtain ⟨e0, e1, e2, e3, e4, e5, e6, e7, e8⟩ := h0
  obtain ⟨f0, f1, f2, f3, f4, f5, f6, f7, f8⟩ := h1
  go_enter Try.func34, Try.ntmps34
  go_wp2
  refine wp_loop_rounds 3 ?_
  rw [rounds_succ]
  go_wp2_with fail
  refine (HK.out _ (below2 w _ _)).mono ?_
  rintro e w1 ⟨r, rfl, hr, hb⟩
  have hB := (below2 w _ _).trans (hb.mono (by simp; omega))
  clear hb
  by_cases hz : r = 0
  · subst hz
    have hA : At9 w1 a k2 := H9.out.1.move (hB.block a ha)
    obtain ⟨p1, p2, p3, p4, p5, p6⟩ := lts (show a < w1.heap.size by have := hB.size; omega)
    clear e0 e1 e2 e3 e4 e5 e6 e7 e8 f0 f1 f2 f3 f4 f5 f6 f7 f8 a1 a2 a3 a4 a5 a6 g1 g2 g3 g4 g5 g6
    obtain ⟨e0, e1, e2, e3, e4, e5, e6, e7, e8⟩ := hA
    have hA2 : At9 w1 g l2 := H9.out.2.move (hB.block g hg)
    have hg1 : g < w1.heap.size := by have := hB.size; omega
    obtain ⟨q1, q2, q3, q4, q5, q6⟩ := lts hg1
    obtain ⟨f0, f1, f2, f3, f4, f5, f6, f7, f8⟩ := hA2
    go_wp2
    rw [rounds_succ]
    go_wp2_with fail
    refine (H2.out _ (hB.trans ((below2 w1 _ _).mono (by have := hB.size; omega)))).mono ?_
    rintro e w2 ⟨r2, rfl, hr2, hb2⟩
    have hB2 := (hB.trans ((below2 w1 _ _).mono (by have := hB.size; omega))).trans (hb2.mono (by have := hB.size; simp; omega))
    clear hb2 hB e0 e1 e2 e3 e4 e5 e6 e7 e8 f0 f1 f2 f3 f4 f5 f6 f7 f8
    by_cases hz2 : r2 = 0
    · subst hz2
      go_wp2
      rw [rounds_succ]
      go_wp2
      go_ret
      exact ⟨0, rfl, .inr ⟨hr, hr2⟩, hB2⟩
    · have hz' : (r2 != 0) = true := by simpa using hz2
      go_wp2
      go_ret
      exact ⟨r2, rfl, .inr ⟨hr, hr2⟩, hB2⟩
  · have hz' : (r != 0) = true := by simpa using hz
    go_wp2
    go_ret
    exact ⟨r, rfl, .inl ⟨hr, hz⟩, hB⟩

end Go.Proofs.Ytogdjjleclbgcaa
