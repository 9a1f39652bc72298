/- tileSize: function 12. -/
import Derived.Test.YtogdjjleclbgcaaMore
namespace Go.Proofs.Ytogdjjleclbgcaa
open Go.RowKit

theorem two_eq {a a' b b' : Int} (h : a = a') (k : b = b') : Ending.returned (.tuple #[.int .i64 a, .int .i64 b]) = .returned (.tuple #[.int .i64 a', .int .i64 b']) := by rw [h, k]

/-- What the size of a term is told as. -/
def Sized (w : World) (t : L) (e : Ending) (w' : World) : Prop := e = .returned (.tuple #[.int .i64 t.size, .int .i64 t.depth]) ∧ Below w.heap.size w w'

set_option maxRecDepth 100000 in
set_option maxHeartbeats 800000 in
theorem size_leaf (op : Int) (nm : ByteArray) (num : Int) (t : L) (h1 : t.size = 1) (h2 : t.depth = 1) (w : World) : Calls Try.prog 12 #[Hd.val ⟨op, nm, num, none, 0, 0⟩] w (Sized w t) := by
  have H := Lib.hid (And.intro h1 h2)
  clear h1 h2
  go_enter Try.func12, Try.ntmps12
  go_wp2
  refine wp_loop_rounds 1 ?_
  rw [rounds_succ]
  go_wp2
  go_ret2
  exact ⟨by rw [H.out.1, H.out.2]; rfl, alloc_below w _⟩

set_option maxRecDepth 100000 in
set_option maxHeartbeats 800000 in
theorem size_abs (b : L) (w : World) (ok : Nat → Prop) (k : Hd) (hr : Rep w ok (.abs b) k) (hs : b.size < 100000000) (hd : b.depth < 100000000)
    (ih : ∀ (w : World) (ok : Nat → Prop) (k : Hd), Rep w ok b k → Calls Try.prog 12 #[k.val] w (Sized w b)) : Calls Try.prog 12 #[k.val] w (Sized w (.abs b)) := by
  obtain ⟨a, c, k, rfl, hok, hc, h0, hr⟩ := hr
  have ha := h0.lt
  have HR := Lib.hid hr
  have IH := Lib.hid ih
  have hp : (1 : Int) ≤ b.depth := by have := L.depth_pos b; omega
  clear hr hok hc ih
  obtain ⟨ha1, ha2, ha3, ha4, ha5, ha6⟩ := lts ha
  obtain ⟨c0, c1, c2, c3, c4, c5, c6, c7, c8⟩ := h0
  go_enter Try.func12, Try.ntmps12
  go_wp2
  refine wp_loop_rounds 2 ?_
  rw [rounds_succ]
  go_wp2_with (go_at_call 12; refine (IH.out _ ok k (HR.out.below (below2 w _ _))).mono ?_; rintro e w1 ⟨rfl, hb1⟩; have HB := Lib.hid hb1; clear hb1)
  rw [rounds_succ]
  go_wp2
  go_ret2
  exact ⟨two_eq (by simp only [L.size]; omega) (by simp only [L.depth]; omega), (below2 w _ _).trans (HB.out.mono (by simp; omega))⟩

set_option maxRecDepth 100000 in
set_option maxHeartbeats 800000 in
theorem size_app (f x : L) (w : World) (ok : Nat → Prop) (k : Hd) (hr : Rep w ok (.app f x) k) (hs : f.size + x.size < 100000000) (hd : f.depth < 100000000) (hd' : x.depth < 100000000)
    (ihf : ∀ (w : World) (ok : Nat → Prop) (k : Hd), Rep w ok f k → Calls Try.prog 12 #[k.val] w (Sized w f))
    (ihx : ∀ (w : World) (ok : Nat → Prop) (k : Hd), Rep w ok x k → Calls Try.prog 12 #[k.val] w (Sized w x)) : Calls Try.prog 12 #[k.val] w (Sized w (.app f x)) := by
  obtain ⟨a, c, k, l, rfl, hok, hc, h0, h9, hf, hx⟩ := hr
  have ha := h0.lt
  have HR := Lib.hid (And.intro hf (And.intro hx h9))
  have IH := Lib.hid (And.intro ihf ihx)
  have hp : (1 : Int) ≤ f.depth := by have := L.depth_pos f; omega
  clear hf hx hok hc ihf ihx h9
  obtain ⟨ha1, ha2, ha3, ha4, ha5, ha6⟩ := lts ha
  obtain ⟨c0, c1, c2, c3, c4, c5, c6, c7, c8⟩ := h0
  go_enter Try.func12, Try.ntmps12
  go_wp2
  refine wp_loop_rounds 3 ?_
  rw [rounds_succ]
  go_wp2_with (go_at_call 12; refine (IH.out.1 _ ok k (HR.out.1.below (below2 w _ _))).mono ?_; rintro e w1 ⟨rfl, hb1⟩; have HB := Lib.hid hb1; clear hb1)
  have hB := (below2 w (Hd.obj ⟨6, ⟨#[]⟩, 0, some ⟨a, 0, none⟩, 2, c⟩) k.obj).trans (HB.out.mono (by simp; omega))
  obtain ⟨d0, d1, d2, d3, d4, d5, d6, d7, d8⟩ := HR.out.2.2.move (hB.block a ha)
  have HC := Lib.hid hB
  have haw : a < w1.heap.size := by have := hB.size; omega
  clear hB c0 c1 c2 c3 c4 c5 c6 c7 c8
  rw [rounds_succ]
  by_cases hm : (f.depth : Int) < x.depth
  all_goals
    go_wp2_with (go_at_call 12; refine (IH.out.2 _ ok l ((HR.out.2.1.below HC.out).below (alloc_below _ _))).mono ?_; rintro e w2 ⟨rfl, hb2⟩; have HD := Lib.hid hb2; clear hb2)
    rw [rounds_succ]
    go_wp2
    go_ret2
    exact ⟨two_eq (by simp only [L.size]; omega) (by simp only [L.depth]; omega), HC.out.trans (((alloc_below _ _).trans (HD.out.mono (by simp))).mono HC.out.size)⟩

theorem L.size_pos (t : L) : 1 ≤ t.size := by cases t <;> simp [L.size]

theorem size_calls (t : L) : t.size < 100000000 → t.depth < 100000000 → ∀ (w : World) (ok : Nat → Prop) (k : Hd), Rep w ok t k → Calls Try.prog 12 #[k.val] w (Sized w t) := by
  induction t with
  | free => intro _ _ w ok k hr; cases hr; exact size_leaf 2 sName 0 .free rfl rfl w
  | var => intro _ _ w ok k hr; cases hr; exact size_leaf 3 zName 3 .var rfl rfl w
  | bnd j => intro _ _ w ok k hr; cases hr; exact size_leaf 4 _ j (.bnd j) rfl rfl w
  | abs b ih =>
    intro h1 h2 w ok k hr
    simp only [L.size, L.depth] at h1 h2
    exact size_abs b w ok k hr (by omega) (by omega) (ih (by omega) (by omega))
  | app f x ih1 ih2 =>
    intro h1 h2 w ok k hr
    simp only [L.size, L.depth] at h1 h2
    exact size_app f x w ok k hr (by omega) (by omega) (by omega) (ih1 (by omega) (by omega)) (ih2 (by omega) (by omega))

end Go.Proofs.Ytogdjjleclbgcaa
