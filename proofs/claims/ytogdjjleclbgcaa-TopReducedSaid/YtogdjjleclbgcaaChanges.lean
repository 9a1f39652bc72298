/- The changes. -/
import Derived.Test.YtogdjjleclbgcaaMade
import Derived.Test.YtogdjjleclbgcaaLift
namespace Go.Proofs.Ytogdjjleclbgcaa
open Go.RowKit

set_option maxRecDepth 100000 in
set_option maxHeartbeats 800000 in
theorem stay_calls (w : World) (k : Hd) (d : Int) : Calls Try.prog 28 #[k.val, .int .i64 d] w (fun e w' => e = .returned (.tuple #[k.val, .bool false]) ∧ Below w.heap.size w w') := by
  go_enter Try.func28, Try.ntmps28
  go_wp2
  exact end_rowt k (.bool false) rfl (by rfl) (by rfl) rfl (heap2 w _ _) ⟨rfl, below2 w _ _⟩

set_option maxRecDepth 100000 in
set_option maxHeartbeats 800000 in
theorem loose_other (n : Int) (w : World) (k : Hd) (d : Int) (h4 : (k.op == 4) = false) : Calls Try.prog 37 #[.agg #[.int .i64 n], k.val, .int .i64 d] w (fun e w' => e = .returned (.tuple #[k.val, .bool false]) ∧ Below w.heap.size w w') := by
  go_enter Try.func37, Try.ntmps37
  go_wp2
  exact end_rowt k (.bool false) rfl (by rfl) (by rfl) rfl (heap3c w _ _ _) ⟨rfl, below3 w _ _ _⟩

set_option maxRecDepth 100000 in
set_option maxHeartbeats 800000 in
theorem loose_low (n : Int) (w : World) (j d : Int) (h : j < d) : Calls Try.prog 37 #[.agg #[.int .i64 n], Hd.val ⟨4, ⟨#[]⟩, j, none, 0, 0⟩, .int .i64 d] w (fun e w' => e = .returned (.tuple #[Hd.val ⟨4, ⟨#[]⟩, j, none, 0, 0⟩, .bool false]) ∧ Below w.heap.size w w') := by
  go_enter Try.func37, Try.ntmps37
  go_wp2
  exact end_rowt ⟨4, ⟨#[]⟩, j, none, 0, 0⟩ (.bool false) rfl (by rfl) (by rfl) rfl (heap3c w _ _ _) ⟨rfl, below3 w _ _ _⟩

set_option maxRecDepth 100000 in
set_option maxHeartbeats 800000 in
theorem loose_high (n : Int) (w : World) (j d : Int) (h : d ≤ j) (hw : wrap64 (j + n) = j + n) : Calls Try.prog 37 #[.agg #[.int .i64 n], Hd.val ⟨4, ⟨#[]⟩, j, none, 0, 0⟩, .int .i64 d] w (fun e w' => e = .returned (.tuple #[Hd.val ⟨4, ⟨#[]⟩, j + n, none, 0, 0⟩, .bool false]) ∧ Below w.heap.size w w') := by
  go_enter Try.func37, Try.ntmps37
  go_wp2
  exact end_rowt ⟨4, ⟨#[]⟩, j + n, none, 0, 0⟩ (.bool false) rfl (by rfl) (by rfl) rfl (heap3c w _ _ _) ⟨rfl, below3 w _ _ _⟩

theorem arr1 (a b c : Value) : #[a] ++ (#[b, c] ++ #[]) = #[a, b, c] := by simp
theorem arr0 (b c : Value) : #[] ++ (#[b, c] ++ #[]) = #[b, c] := by simp
theorem arr2 (a b c d : Value) : #[] ++ (#[a, b] ++ #[c, d]) = #[a, b, c, d] := by simp

theorem fine_true (w : World) : Fine (fun _ => True) w := fun _ _ => trivial

/-- The loose numbers are raised. -/
theorem lifted (t : L) (n : Nat) (hn : n < 1000000) : ∀ (d : Nat), t.most < 1000000 → t.depth + d < 1000000 → ∀ (w : World) (ok : Nat → Prop) (k : Hd) (i : Int), i = d → Rep w ok t k →
    Calls Try.prog 29 #[.func (.func 37) #[.agg #[.int .i64 n]] #[], k.val, .int .i64 i] w (Gives w ok (t.lift n d)) := by
  have eg := enters_of Try.func37 (by kernel_rfl) rfl
  have hK : Kept (fun _ => True) 37 #[.agg #[.int .i64 n]] #[] := fun w k d _ h4 => by rw [arr1]; exact loose_other n w k d h4
  induction t with
  | free => intro d _ _ w ok k i hi hr; cases hr; exact made_flat 37 _ _ eg 2 sName 0 2 sName 0 rfl .free (fun _ _ => rfl) i w ok fun w' _ => by rw [arr1]; exact loose_other n w' ⟨2, sName, 0, none, 0, 0⟩ i rfl
  | var => intro d _ _ w ok k i hi hr; cases hr; exact made_flat 37 _ _ eg 3 zName 3 3 zName 3 rfl .var (fun _ _ => rfl) i w ok fun w' _ => by rw [arr1]; exact loose_other n w' ⟨3, zName, 3, none, 0, 0⟩ i rfl
  | bnd j =>
    intro d h1 h2 w ok k i hi hr
    cases hr
    subst hi
    simp only [L.most] at h1
    by_cases h : j < d
    · rw [show (L.bnd j).lift n d = .bnd j by simp [L.lift, h]]
      exact made_flat 37 _ _ eg 4 ⟨#[]⟩ j 4 ⟨#[]⟩ j rfl (.bnd j) (fun _ _ => rfl) d w ok fun w' _ => by rw [arr1]; exact loose_low n w' j d (by omega)
    · rw [show (L.bnd j).lift n d = .bnd (j + n) by simp [L.lift, h]]
      exact made_flat 37 _ _ eg 4 ⟨#[]⟩ j 4 ⟨#[]⟩ (j + n) rfl (.bnd (j + n)) (fun _ _ => by simp [Rep]) d w ok fun w' _ => by rw [arr1]; exact loose_high n w' j d (by omega) (by unfold wrap64; omega)
  | abs b ih =>
    intro d h1 h2 w ok k i hi hr
    subst hi
    simp only [L.depth] at h2
    exact made_abs 37 _ _ eg (fun _ => True) hK b _ d (by omega) w ok k hr (fine_true w) fun w ok k i hi hr _ _ => ih (d + 1) h1 (by omega) w ok k i hi hr
  | app f x ih1 ih2 =>
    intro d h1 h2 w ok k i hi hr
    subst hi
    simp only [L.depth] at h2
    simp only [L.most] at h1
    exact made_app 37 _ _ eg (fun _ => True) hK f x _ _ d w ok k hr (fine_true w) (fun w ok k hr _ _ => ih1 d (by omega) (by omega) w ok k _ rfl hr) (fun w ok k hr _ _ => ih2 d (by omega) (by omega) w ok k _ rfl hr)

/-- A copy. -/
theorem stayed (t : L) : ∀ (d : Nat), t.depth + d < 1000000 → ∀ (w : World) (ok : Nat → Prop) (k : Hd) (i : Int), i = d → Rep w ok t k →
    Calls Try.prog 29 #[.func (.func 28) #[] #[], k.val, .int .i64 i] w (Gives w ok t) := by
  have eg := enters_of Try.func28 (by kernel_rfl) rfl
  have hK : Kept (fun _ => True) 28 #[] #[] := fun w k d _ h4 => by rw [arr0]; exact stay_calls w k d
  induction t with
  | free => intro d _ w ok k i hi hr; cases hr; exact made_flat 28 _ _ eg 2 sName 0 2 sName 0 rfl .free (fun _ _ => rfl) i w ok fun w' _ => by rw [arr0]; exact stay_calls w' ⟨2, sName, 0, none, 0, 0⟩ i
  | var => intro d _ w ok k i hi hr; cases hr; exact made_flat 28 _ _ eg 3 zName 3 3 zName 3 rfl .var (fun _ _ => rfl) i w ok fun w' _ => by rw [arr0]; exact stay_calls w' ⟨3, zName, 3, none, 0, 0⟩ i
  | bnd j => intro d _ w ok k i hi hr; cases hr; exact made_flat 28 _ _ eg 4 ⟨#[]⟩ j 4 ⟨#[]⟩ j rfl (.bnd j) (fun _ _ => rfl) i w ok fun w' _ => by rw [arr0]; exact stay_calls w' ⟨4, ⟨#[]⟩, j, none, 0, 0⟩ i
  | abs b ih =>
    intro d h2 w ok k i hi hr
    subst hi
    simp only [L.depth] at h2
    exact made_abs 28 _ _ eg (fun _ => True) hK b _ d (by omega) w ok k hr (fine_true w) fun w ok k i hi hr _ _ => ih (d + 1) (by omega) w ok k i hi hr
  | app f x ih1 ih2 =>
    intro d h2 w ok k i hi hr
    subst hi
    simp only [L.depth] at h2
    exact made_app 28 _ _ eg (fun _ => True) hK f x _ _ d w ok k hr (fine_true w) (fun w ok k hr _ _ => ih1 d (by omega) w ok k _ rfl hr) (fun w ok k hr _ _ => ih2 d (by omega) w ok k _ rfl hr)

set_option maxRecDepth 100000 in
set_option maxHeartbeats 800000 in
/-- Lift. -/
theorem prog_lift (t : L) (n : Nat) (hn : n < 1000000) (h1 : t.most < 1000000) (h2 : t.depth + 0 < 1000000) (w : World) (ok : Nat → Prop) (k : Hd) (hr : Rep w ok t k) : Calls Try.prog 36 #[k.val, .int .i64 n] w (Gives w ok (t.lift n 0)) := by
  have HR := Lib.hid (And.intro hr.bound (And.intro h1 h2))
  clear hr h1 h2
  have hmf : ∀ (fn : Fn) (first cap : Array Value) (w : World), (Instr.makeFunc fn first cap).run Try.prog w = .ok (.func fn first cap) w := fun _ _ _ _ => rfl
  go_enter Try.func36, Try.ntmps36
  go_wp2_with (go_at_call 29; refine (lifted t n hn 0 HR.out.2.1 HR.out.2.2 _ _ k 0 rfl (HR.out.1.below (below2 w _ _))).mono ?_; rintro e w1 ⟨k1, rfl, hr1, hb1⟩; have p1 := (hb1.block (w.heap.size + 1) (by simp)).trans (heap2 w _ _); have f0 := (cells_of_block p1).1; have f1 := (cells_of_block p1).2.1; have f2 := (cells_of_block p1).2.2.1; have f3 := (cells_of_block p1).2.2.2.1; have f4 := (cells_of_block p1).2.2.2.2.1; have f5 := (cells_of_block p1).2.2.2.2.2.1; have f6 := (cells_of_block p1).2.2.2.2.2.2.1; have f7 := (cells_of_block p1).2.2.2.2.2.2.2.1; have f8 := (cells_of_block p1).2.2.2.2.2.2.2.2; have fz := free_of_block p1; have HQ := Lib.hid (And.intro hr1 hb1); clear hr1 hb1)
  refine end9 k1 rfl (by rfl) rfl p1 (fun F hF _ => ⟨k1, rfl, ?_, ?_⟩)
  · refine (HQ.out.1.bound.grown hF ?_).imp ?_
    · rintro z ⟨⟨_, hz⟩ | hz, _⟩ e
      · simp at e; omega
      · simp at e hz; omega
    · rintro z ⟨⟨hz, _⟩ | hz, _⟩ _
      · exact .inl hz
      · exact .inr (by simp at hz; omega)
  · exact below_gb ((below2 w _ _).trans (HQ.out.2.mono (by simp; omega))) hF (by have := HQ.out.2.size; simp at this; omega) (by simp)

set_option maxRecDepth 100000 in
set_option maxHeartbeats 800000 in
/-- A copy of a term. -/
theorem prog_copied (t : L) (h2 : t.depth + 0 < 1000000) (w : World) (ok : Nat → Prop) (k : Hd) (hr : Rep w ok t k) : Calls Try.prog 24 #[k.val] w (Gives w ok t) := by
  have HR := Lib.hid hr.bound
  clear hr
  go_enter Try.func24, Try.ntmps24
  go_wp2_with (go_at_call 29; refine (stayed t 0 h2 _ _ k 0 rfl (HR.out.below (below2 w _ _))).mono ?_; rintro e w1 ⟨k1, rfl, hr1, hb1⟩; have p1 := (hb1.block (w.heap.size + 1) (by simp)).trans (heap2 w _ _); have f0 := (cells_of_block p1).1; have f1 := (cells_of_block p1).2.1; have f2 := (cells_of_block p1).2.2.1; have f3 := (cells_of_block p1).2.2.2.1; have f4 := (cells_of_block p1).2.2.2.2.1; have f5 := (cells_of_block p1).2.2.2.2.2.1; have f6 := (cells_of_block p1).2.2.2.2.2.2.1; have f7 := (cells_of_block p1).2.2.2.2.2.2.2.1; have f8 := (cells_of_block p1).2.2.2.2.2.2.2.2; have fz := free_of_block p1; have HQ := Lib.hid (And.intro hr1 hb1); clear hr1 hb1)
  refine end9 k1 rfl (by rfl) rfl p1 (fun F hF _ => ⟨k1, rfl, ?_, ?_⟩)
  · refine (HQ.out.1.bound.grown hF ?_).imp ?_
    · rintro z ⟨⟨_, hz⟩ | hz, _⟩ e
      · simp at e; omega
      · simp at e hz; omega
    · rintro z ⟨⟨hz, _⟩ | hz, _⟩ _
      · exact .inl hz
      · exact .inr (by simp at hz; omega)
  · exact below_gb ((below2 w _ _).trans (HQ.out.2.mono (by simp; omega))) hF (by have := HQ.out.2.size; simp at this; omega) (by simp)

end Go.Proofs.Ytogdjjleclbgcaa
