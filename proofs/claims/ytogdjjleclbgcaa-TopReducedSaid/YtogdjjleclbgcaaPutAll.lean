/- tilePut, function 18, at every term. -/
import Derived.Test.YtogdjjleclbgcaaLift
import Derived.Test.YtogdjjleclbgcaaPut
namespace Go.Proofs.Ytogdjjleclbgcaa
open Go.RowKit

set_option maxRecDepth 100000 in
set_option maxHeartbeats 800000 in
theorem put_leaf (op : Int) (nm : ByteArray) (num : Int) (h4 : (op == 4) = false) (h5 : (op == 5) = false) (t : L) (ht : ∀ w ok, Rep w ok t ⟨op, nm, num, none, 0, 0⟩) (d : Int) (w : World) (ok : Nat → Prop) (ka : Hd) :
    Calls Try.prog 18 #[Hd.val ⟨op, nm, num, none, 0, 0⟩, ka.val, .int .i64 d] w (Gives w ok t) := by
  have HT := Lib.hid ht
  clear ht
  go_enter Try.func18, Try.ntmps18
  go_wp2
  refine wp_loop_rounds 1 ?_
  rw [rounds_succ]
  go_wp2
  obtain ⟨hb, hs, g0, g1, g2, g3⟩ := four w (Hd.obj ⟨op, nm, num, none, 0, 0⟩) ka.obj (Hd.obj ⟨op, nm, num, none, 0, 0⟩) (Hd.obj ⟨op, nm, num, none, 0, 0⟩)
  exact end_row ⟨op, nm, num, none, 0, 0⟩ rfl (by rfl) rfl g2 ⟨_, rfl, HT.out _ _, hb⟩

set_option maxRecDepth 100000 in
set_option maxHeartbeats 800000 in
theorem put_low (k d : Nat) (h : (k : Int) < d) (w : World) (ok : Nat → Prop) (ka : Hd) :
    Calls Try.prog 18 #[Hd.val ⟨4, ⟨#[]⟩, k, none, 0, 0⟩, ka.val, .int .i64 d] w (Gives w ok (.bnd k)) := by
  have h1 : ((k : Int) == d) = false := by simp; omega
  go_enter Try.func18, Try.ntmps18
  go_wp2
  refine wp_loop_rounds 1 ?_
  rw [rounds_succ]
  go_wp2
  obtain ⟨hb, hs, g0, g1, g2, g3⟩ := four w (Hd.obj ⟨4, ⟨#[]⟩, k, none, 0, 0⟩) ka.obj (Hd.obj ⟨4, ⟨#[]⟩, k, none, 0, 0⟩) (Hd.obj ⟨4, ⟨#[]⟩, k, none, 0, 0⟩)
  exact end_row ⟨4, ⟨#[]⟩, k, none, 0, 0⟩ rfl (by rfl) rfl g2 ⟨_, rfl, rfl, hb⟩

set_option maxRecDepth 100000 in
set_option maxHeartbeats 800000 in
theorem put_high (k d : Nat) (h : (d : Int) < k) (hk : k < 1000000) (w : World) (ok : Nat → Prop) (ka : Hd) :
    Calls Try.prog 18 #[Hd.val ⟨4, ⟨#[]⟩, k, none, 0, 0⟩, ka.val, .int .i64 d] w (Gives w ok (.bnd (k - 1))) := by
  have h1 : ((k : Int) == d) = false := by simp; omega
  go_enter Try.func18, Try.ntmps18
  go_wp2
  refine end_row ⟨4, ⟨#[]⟩, (k : Int) - 1, none, 0, 0⟩ rfl (by rfl) rfl (heap3c w _ _ _) ⟨_, rfl, (by simp only [Rep]; congr 1; omega), below3 w _ _ _⟩

set_option maxRecDepth 100000 in
set_option maxHeartbeats 800000 in
theorem put_same (x : L) (d : Nat) (hd : d < 1000000) (w : World) (ok : Nat → Prop) (ka : Hd) (hra : Rep w ok x ka) (h1 : x.most < 1000000) (h2 : x.depth < 1000000) :
    Calls Try.prog 18 #[Hd.val ⟨4, ⟨#[]⟩, d, none, 0, 0⟩, ka.val, .int .i64 d] w (Gives w ok (x.lift d 0)) := by
  have HA := Lib.hid (And.intro hra (And.intro h1 h2))
  clear hra h1 h2
  have h1 : ((d : Int) == d) = true := by simp
  go_enter Try.func18, Try.ntmps18
  go_wp2_with (go_at_call 10; refine (lift_calls x d hd 0 HA.out.2.1 (by have := HA.out.2.2; omega) _ _ ka 0 rfl (HA.out.1.bound.below (below3 w _ _ _))).mono ?_; rintro e w1 ⟨k1, rfl, hr1, hb1⟩; have p1 := (hb1.block (w.heap.size + 1 + 1) (by simp)).trans (heap3c w _ _ _); obtain ⟨f0, f1, f2, f3, f4, f5, f6, f7, f8⟩ := cells_of_block p1; have fz := free_of_block p1; have HR := Lib.hid (And.intro hr1 hb1); clear hr1 hb1)
  refine end9 k1 rfl (by rfl) rfl p1 (fun F hF _ => ⟨k1, rfl, ?_, ?_⟩)
  · refine (HR.out.1.bound.grown hF ?_).imp ?_
    · rintro z ⟨hz | hz, hz2⟩ e
      · simp at e
        subst e
        exact absurd hz.2 (by omega)
      · simp at e hz; omega
    · rintro z ⟨hz | hz, _⟩ _
      · exact .inl hz.1
      · exact .inr (by simp at hz; omega)
  · exact below_gb (((below3 w _ _ _)).trans (HR.out.2.mono (by simp; omega))) hF (by have := HR.out.2.size; simp at this; omega) (by simp; omega)

theorem put_calls (x : L) (hx1 : x.most < 1000000) (hx2 : x.depth < 1000000) (t : L) : ∀ (d : Nat), t.most < 1000000 → t.depth + d < 1000000 → ∀ (w : World) (ok : Nat → Prop) (k ka : Hd) (i : Int), i = d → Rep w ok t k → Rep w ok x ka →
    Calls Try.prog 18 #[k.val, ka.val, .int .i64 i] w (Gives w ok (L.put x d t)) := by
  induction t with
  | free => intro d _ _ w ok k ka i hi hr _; cases hr; exact put_leaf 2 sName 0 rfl rfl .free (fun _ _ => rfl) i w ok ka
  | var => intro d _ _ w ok k ka i hi hr _; cases hr; exact put_leaf 3 zName 3 rfl rfl .var (fun _ _ => rfl) i w ok ka
  | bnd j =>
    intro d h1 h2 w ok k ka i hi hr hra
    cases hr
    subst hi
    simp only [L.depth] at h2
    by_cases hj : j = d
    · subst hj
      simp only [L.put, if_true]
      exact put_same x j (by omega) w ok ka hra hx1 hx2
    · simp only [L.put, if_neg hj]
      by_cases hd : d < j
      · rw [if_pos hd]
        exact put_high j d (by omega) h1 w ok ka
      · rw [if_neg hd]
        exact put_low j d (by omega) w ok ka
  | abs b ih =>
    intro d h1 h2 w ok k ka i hi hr hra
    subst hi
    simp only [L.depth] at h2
    exact put_abs b x d (by omega) w ok k ka hr hra (fun w ok k ka i hi hr hra => ih (d + 1) h1 (by omega) w ok k ka i hi hr hra)
  | app f a ih1 ih2 =>
    intro d h1 h2 w ok k ka i hi hr hra
    subst hi
    simp only [L.depth] at h2
    simp only [L.most] at h1
    exact put_app f a x d w ok k ka hr hra (fun w ok k ka hr hra => ih1 d (by omega) (by omega) w ok k ka _ rfl hr hra) (fun w ok k ka hr hra => ih2 d (by omega) (by omega) w ok k ka _ rfl hr hra)

end Go.Proofs.Ytogdjjleclbgcaa
