/- The program's step at every term. -/
import Derived.Test.YtogdjjleclbgcaaPstep
namespace Go.Proofs.Ytogdjjleclbgcaa
open Go.RowKit

set_option maxRecDepth 100000 in
set_option maxHeartbeats 800000 in
theorem pstep_beta (b x : L) (m1 : b.most < 1000000) (m2 : x.most < 1000000) (d1 : b.depth + 0 < 1000000) (d2 : x.depth + 0 < 1000000) (w : World) (ok : Nat → Prop) (k : Hd) (hr : Rep w ok (.app (.abs b) x) k) : Calls Try.prog 23 #[k.val] w (Yes w ok (L.put x 0 b)) := by
  have HR := Lib.hid hr.bound
  have HM := Lib.hid (And.intro m1 (And.intro m2 (And.intro d1 d2)))
  clear hr m1 m2 d1 d2
  go_enter Try.func23, Try.ntmps23
  go_wp2_with fail
  refine (beta_yes b x HM.out.1 HM.out.2.1 HM.out.2.2.1 HM.out.2.2.2 _ _ k (HR.out.below (below2 w _ _))).mono ?_
  rintro e w1 ⟨k1, rfl, hr1, hb1⟩
  have q1 := (hb1.block (w.heap.size + 1) (by simp)).trans (heap2 w _ _)
  have hs1 : w.heap.size + 2 ≤ w1.heap.size := by have := hb1.size; simp at this; omega
  have hB := (below2 w _ _).trans (hb1.mono (by simp; omega))
  have HQ := Lib.hid (And.intro hr1 (And.intro hB q1))
  have f0 := (cells_of_block q1).1
  have f1 := (cells_of_block q1).2.1
  have f2 := (cells_of_block q1).2.2.1
  have f3 := (cells_of_block q1).2.2.2.1
  have f4 := (cells_of_block q1).2.2.2.2.1
  have f5 := (cells_of_block q1).2.2.2.2.2.1
  have f6 := (cells_of_block q1).2.2.2.2.2.2.1
  have f7 := (cells_of_block q1).2.2.2.2.2.2.2.1
  have f8 := (cells_of_block q1).2.2.2.2.2.2.2.2
  have fz := free_of_block q1
  have l0 : w.heap.size < w1.heap.size := by omega
  have l1 : w.heap.size + 1 < w1.heap.size := by omega
  clear hb1 hr1 hB
  go_wp2
  obtain ⟨V, hV, m1, m2, m3⟩ := nineE (.int .i64 k1.op) (.string k1.name) (.int .i64 k1.num) (.int .i64 0) (.string ⟨#[]⟩) (.int .i64 0) (.slice none 0 0) (.slice none 0 0) (.slice k1.A k1.n k1.c) HQ.out.2.2
  rw [hV]
  have hVa := alloc_below V k1.obj
  have hBV := below_gb HQ.out.2.1 m2 (by omega) (by simp)
  refine end_rowt k1 (.bool true) rfl (by rfl) (by rfl) rfl ((Below.heap_alloc _ _ _ (by omega)).trans m1) ⟨k1, rfl, ?_, hBV.trans (hVa.mono (by omega))⟩
  refine ((HQ.out.1.bound.grown m2 ?_).below hVa).imp ?_
  · rintro z ⟨⟨_, hz⟩ | hz, _⟩ e
    · simp at e; omega
    · simp at e hz; omega
  · rintro z ⟨⟨hz, _⟩ | hz, _⟩ _
    · exact .inl hz
    · exact .inr (by simp at hz; omega)

theorem pstep_calls (t : L) : t.most < 1000000 → t.depth < 1000000 → ∀ (w : World) (ok : Nat → Prop) (k : Hd), Rep w ok t k → Calls Try.prog 23 #[k.val] w (Steps w ok t) := by
  induction t with
  | free => intro _ _ w ok k hr; cases hr; exact pstep_leaf 2 sName 0 rfl w
  | var => intro _ _ w ok k hr; cases hr; exact pstep_leaf 3 zName 3 rfl w
  | bnd j => intro _ _ w ok k hr; cases hr; exact pstep_leaf 4 _ j rfl w
  | abs b ih =>
    intro h1 h2 w ok k hr
    simp only [L.most, L.depth] at h1 h2
    have ih' := ih h1 (by omega)
    cases hb : b.step with
    | none =>
      have e : Steps w ok (.abs b) = No w := by funext e w'; simp [Steps, L.step, hb]
      rw [e]
      exact pstep_abs_no b w ok k hr fun w ok k hr => (ih' w ok k hr).mono fun e w' h => by simpa [Steps, hb] using h
    | some u =>
      have e : Steps w ok (.abs b) = Yes w ok (.abs u) := by funext e w'; simp [Steps, L.step, hb]
      rw [e]
      exact pstep_abs_yes b u w ok k hr fun w ok k hr => (ih' w ok k hr).mono fun e w' h => by simpa [Steps, hb] using h
  | app f x ih1 ih2 =>
    intro h1 h2 w ok k hr
    simp only [L.most, L.depth] at h1 h2
    have ih1 := ih1 (by omega) (by omega)
    have ih2 := ih2 (by omega) (by omega)
    by_cases hn : ∀ b, f ≠ .abs b
    · have hbn := beta_no (x := x) hn
      cases hf : f.step with
      | some u =>
        have e : Steps w ok (.app f x) = Yes w ok (.app u x) := by funext e w'; simp [Steps, L.step, hf, hbn]
        rw [e]
        exact pstep_app_f f x u hn w ok k hr fun w ok k hr => (ih1 w ok k hr).mono fun e w' h => by simpa [Steps, hf] using h
      | none =>
        cases hx : x.step with
        | some u =>
          have e : Steps w ok (.app f x) = Yes w ok (.app f u) := by funext e w'; simp [Steps, L.step, hf, hbn, hx]
          rw [e]
          exact pstep_app_x f x u hn w ok k hr (fun w ok k hr => (ih1 w ok k hr).mono fun e w' h => by simpa [Steps, hf] using h) (fun w ok k hr => (ih2 w ok k hr).mono fun e w' h => by simpa [Steps, hx] using h)
        | none =>
          have e : Steps w ok (.app f x) = No w := by funext e w'; simp [Steps, L.step, hf, hbn, hx]
          rw [e]
          exact pstep_app_no f x hn w ok k hr (fun w ok k hr => (ih1 w ok k hr).mono fun e w' h => by simpa [Steps, hf] using h) (fun w ok k hr => (ih2 w ok k hr).mono fun e w' h => by simpa [Steps, hx] using h)
    · have ⟨b, hb⟩ : ∃ b, f = .abs b := Classical.byContradiction fun h => hn fun b hb => h ⟨b, hb⟩
      subst hb
      have e : Steps w ok (.app (.abs b) x) = Yes w ok (L.put x 0 b) := by funext e w'; simp [Steps, L.step, L.beta]
      rw [e]
      simp only [L.most, L.depth] at h1 h2
      exact pstep_beta b x (by omega) (by omega) (by omega) (by omega) w ok k hr

end Go.Proofs.Ytogdjjleclbgcaa
