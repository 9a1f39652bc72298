/- tileStep at every term. -/
import Derived.Test.YtogdjjleclbgcaaStep
import Derived.Test.YtogdjjleclbgcaaPutAll
namespace Go.Proofs.Ytogdjjleclbgcaa
open Go.RowKit

theorem gen2 {P : Program} {c : Code} {Q : Exit → Act → World → Prop} {a : Act} {w : World} {A B : Obj}
    (h : ∀ W, Below w.heap.size w W → W.heap.size = w.heap.size + 2 → W.heap[w.heap.size]? = some A → W.heap[w.heap.size + 1]? = some B → c.wp P Q a W) :
    c.wp P Q a ((w.alloc A).alloc B) :=
  h _ (below2 w A B) (by simp) (heap2a w A B) (heap2 w A B)

set_option maxRecDepth 100000 in
set_option maxHeartbeats 800000 in
theorem step_beta (b x : L) (m1 : b.most < 1000000) (m2 : x.most < 1000000) (d1 : b.depth + 0 < 1000000) (d2 : x.depth < 1000000) (w : World) (ok : Nat → Prop) (k : Hd) (hr : Rep w ok (.app (.abs b) x) k) : Calls Try.prog 11 #[k.val] w (Yes w ok (L.put x 0 b)) := by
  obtain ⟨a, c, k, l, rfl, hok, hc, h0, h9, ⟨a2, c2, kb, rfl, hok2, hc2, h02, hb⟩, hx⟩ := hr
  have ha := h0.lt
  have ha2 := h02.lt
  have HR := Lib.hid (And.intro hb.bound hx.bound)
  have HA := Lib.hid (And.intro h0 (And.intro h9 h02))
  have HM := Lib.hid (And.intro m1 (And.intro m2 (And.intro d1 d2)))
  clear hb hx hok hok2 hc hc2 h9 h02 m1 m2 d1 d2
  obtain ⟨ha1, ha2', ha3, ha4, ha5, ha6⟩ := lts ha
  obtain ⟨c0, c1, c2, c3, c4, c5, c6, c7, c8⟩ := h0
  go_enter Try.func11, Try.ntmps11
  go_wp2
  refine gen2 ?_
  intro W hb hs g0 g1
  clear c0 c1 c2 c3 c4 c5 c6 c7 c8
  have HA : Hid (At0 W a ⟨5, ⟨#[]⟩, 0, some ⟨a2, 0, none⟩, 1, c2⟩ ∧ At9 W a l ∧ At0 W a2 kb) := Lib.hid ⟨HA.out.1.move (hb.block a ha), HA.out.2.1.move (hb.block a ha), HA.out.2.2.move (hb.block a2 ha2)⟩
  have hwd : Below W.heap.size W W.drew := (Below.refl _ _).drew
  have hT : W.grownBy W.drew (some (w.heap.size + 1)) := gb_some (gb_drew _)
  refine G_begin (fun w' => W.grownBy w' (some (w.heap.size + 1))) (by kernel_rfl) ?_
  refine G_take 0 13 rfl (by kernel_rfl) (fun _ _ _ h => h) hT (v := ?_) (.inl ⟨by rfl, ?_⟩) ?_
  rotate_left
  · intro w' hw'; go_simp; try with_reducible rfl
  refine G_take 1 13 rfl (by kernel_rfl) (fun _ _ _ h => h) hT (v := ?_) (.inl ⟨by rfl, ?_⟩) ?_
  rotate_left
  · intro w' hw'; have q := (cells_of_block ((hw'.block w.heap.size (by omega) (by simp; try omega)).trans g0)).2.2.2.2.2.2.2.2; go_simp; try with_reducible rfl
  refine G_take 2 13 rfl (by kernel_rfl) (fun _ _ _ h => h) hT (v := ?_) (.inl ⟨by rfl, ?_⟩) ?_
  rotate_left
  · intro w' hw'; go_simp; try with_reducible rfl
  refine G_take 3 13 rfl (by kernel_rfl) (fun _ _ _ h => h) hT (v := ?_) (.inl ⟨by rfl, ?_⟩) ?_
  rotate_left
  · intro w' hw'; go_simp; try with_reducible rfl
  refine G_take 4 13 rfl (by kernel_rfl) (fun _ _ _ h => h) hT (v := ?_) (.inl ⟨by rfl, ?_⟩) ?_
  rotate_left
  · intro w' hw'; have q := (hw'.cell_far ⟨a, 8, none⟩ (by simp; omega) (by simp; omega)).trans (HA.out.1).2.2.2.2.2.2.2.2; go_simp; try with_reducible rfl
  refine G_take 5 13 rfl (by kernel_rfl) (fun _ _ _ h => h) hT (v := ?_) (.inl ⟨by rfl, ?_⟩) ?_
  rotate_left
  · intro w' hw'; go_simp; try with_reducible rfl
  refine G_take 6 13 rfl (by kernel_rfl) (fun _ _ _ h => h) hT (v := ?_) (.inl ⟨by rfl, ?_⟩) ?_
  rotate_left
  · intro w' hw'; obtain ⟨e0, e1, e2, e3, e4, e5, e6, e7, e8⟩ := HA.out.2.2.move (hw'.block a2 (by omega) (by simp; omega)); go_simp; try with_reducible rfl
  refine G_take 7 13 rfl (by kernel_rfl) (fun _ _ _ h => h) hT (v := ?_) (.inl ⟨by rfl, ?_⟩) ?_
  rotate_left
  · intro w' hw'; go_simp; try with_reducible rfl
  refine G_take 8 13 rfl (by kernel_rfl) (fun _ _ _ h => h) hT (v := ?_) (.inl ⟨by rfl, ?_⟩) ?_
  rotate_left
  · intro w' hw'; have q := (cells_of_block ((hw'.block w.heap.size (by omega) (by simp; try omega)).trans g0)).2.2.2.2.2.2.2.2; go_simp; try with_reducible rfl
  refine G_take 9 13 rfl (by kernel_rfl) (fun _ _ _ h => h) hT (v := ?_) (.inl ⟨by rfl, ?_⟩) ?_
  rotate_left
  · intro w' hw'; go_simp; try with_reducible rfl
  refine G_take 10 13 rfl (by kernel_rfl) (fun _ _ _ h => h) hT (v := ?_) (.inl ⟨by rfl, ?_⟩) ?_
  rotate_left
  · intro w' hw'; obtain ⟨e0, e1, e2, e3, e4, e5, e6, e7, e8⟩ := HA.out.2.1.move (hw'.block a (by omega) (by simp; omega)); go_simp; try with_reducible rfl
  refine G_only 11 rfl (by kernel_rfl) ?_
  intro K hK
  go_simp
  refine (put_calls x HM.out.2.1 HM.out.2.2.2 b 0 HM.out.1 HM.out.2.2.1 _ _ kb l 0 rfl (HR.out.1.below (hb.trans (hwd.mono (by omega)))) (HR.out.2.below (hb.trans (hwd.mono (by omega))))).mono ?_
  rintro e w3 ⟨k3, rfl, hr3, hb3⟩
  have hS3 : W.grownBy w3 none := gb_trans (gb_drew W) (gb_below hb3)
  refine hK _ _ ⟨(gb_some hS3), ?_⟩
  clear hK K
  refine G_only 12 rfl (by kernel_rfl) ?_
  intro K hK
  have p1 := (hS3.block (w.heap.size + 1) (by omega) (by simp)).trans g1
  have f0 := (cells_of_block p1).1
  have f1 := (cells_of_block p1).2.1
  have f2 := (cells_of_block p1).2.2.1
  have f3 := (cells_of_block p1).2.2.2.1
  have f4 := (cells_of_block p1).2.2.2.2.1
  have f5 := (cells_of_block p1).2.2.2.2.2.1
  have f6 := (cells_of_block p1).2.2.2.2.2.2.1
  have f7 := (cells_of_block p1).2.2.2.2.2.2.2.1
  have f8 := (cells_of_block p1).2.2.2.2.2.2.2.2
  have fz := free_of_block p1
  go_simp
  obtain ⟨V, hV, n1, n2, n3⟩ := nineE (.int .i64 k3.op) (.string k3.name) (.int .i64 k3.num) (.int .i64 0) (.string ⟨#[]⟩) (.int .i64 0) (.slice none 0 0) (.slice none 0 0) (.slice k3.A k3.n k3.c) p1
  rw [hV]
  clear hV f0 f1 f2 f3 f4 f5 f6 f7 f8 fz
  refine hK _ _ ⟨(gb_trans hS3 n2), ?_⟩
  clear hK K
  refine G_last 13 rfl (by kernel_rfl) (by kernel_rfl) ?_
  intro K hK
  go_simp
  refine hK _ _ ?_
  clear hK K
  go_wp2
  refine end_rowt k3 (.bool true) rfl (by rfl) (by rfl) rfl n1 ⟨_, rfl, ?_, ?_⟩
  · refine (hr3.bound.grown n2 ?_).imp ?_
    · rintro z ⟨⟨_, hz⟩ | hz, _⟩ e
      · simp at e; omega
      · simp at e hz; omega
    · rintro z ⟨⟨hz, _⟩ | hz, _⟩ _
      · exact .inl hz
      · exact .inr (by simp at hz; omega)
  · exact below_gb (below_gb hb hS3 (by omega) (by simp)) n2 (by have := hS3.size; omega) (by simp)

theorem beta_no {f x : L} (hn : ∀ b, f ≠ .abs b) : L.beta (.app f x) = none := L.beta_app hn

/-- A step of a term, as the function tells it. -/
def Steps (w : World) (ok : Nat → Prop) (t : L) (e : Ending) (w' : World) : Prop :=
  match t.step with
  | some u => Yes w ok u e w'
  | none => No w e w'

theorem step_calls (t : L) : t.most < 1000000 → t.depth < 1000000 → ∀ (w : World) (ok : Nat → Prop) (k : Hd), Rep w ok t k → Calls Try.prog 11 #[k.val] w (Steps w ok t) := by
  induction t with
  | free => intro _ _ w ok k hr; cases hr; exact step_leaf 2 sName 0 rfl w
  | var => intro _ _ w ok k hr; cases hr; exact step_leaf 3 zName 3 rfl w
  | bnd j => intro _ _ w ok k hr; cases hr; exact step_leaf 4 _ j rfl w
  | abs b ih =>
    intro h1 h2 w ok k hr
    simp only [L.most, L.depth] at h1 h2
    have ih' := ih h1 (by omega)
    cases hb : b.step with
    | none =>
      have e : Steps w ok (.abs b) = No w := by funext e w'; simp [Steps, L.step, hb]
      rw [e]
      exact step_abs_no b w ok k hr fun w ok k hr => (ih' w ok k hr).mono fun e w' h => by simpa [Steps, hb] using h
    | some u =>
      have e : Steps w ok (.abs b) = Yes w ok (.abs u) := by funext e w'; simp [Steps, L.step, hb]
      rw [e]
      exact step_abs_yes b u w ok k hr fun w ok k hr => (ih' w ok k hr).mono fun e w' h => by simpa [Steps, hb] using h
  | app f x ih1 ih2 =>
    intro h1 h2 w ok k hr
    simp only [L.most, L.depth] at h1 h2
    have ih1 := ih1 (by omega) (by omega)
    have ih2 := ih2 (by omega) (by omega)
    by_cases hn : ∀ b, f ≠ .abs b
    · have hbn := beta_no (x := x) hn
      cases hf : f.step with
      | some u =>
        have e : Steps w ok (.app f x) = Yes w ok (.app u x) := by funext e w'; simp [Steps, L.step, hf, hbn]
        rw [e]
        exact step_app_f f x u hn w ok k hr fun w ok k hr => (ih1 w ok k hr).mono fun e w' h => by simpa [Steps, hf] using h
      | none =>
        cases hx : x.step with
        | some u =>
          have e : Steps w ok (.app f x) = Yes w ok (.app f u) := by funext e w'; simp [Steps, L.step, hf, hbn, hx]
          rw [e]
          exact step_app_x f x u hn w ok k hr (fun w ok k hr => (ih1 w ok k hr).mono fun e w' h => by simpa [Steps, hf] using h) (fun w ok k hr => (ih2 w ok k hr).mono fun e w' h => by simpa [Steps, hx] using h)
        | none =>
          have e : Steps w ok (.app f x) = No w := by funext e w'; simp [Steps, L.step, hf, hbn, hx]
          rw [e]
          exact step_app_no f x hn w ok k hr (fun w ok k hr => (ih1 w ok k hr).mono fun e w' h => by simpa [Steps, hf] using h) (fun w ok k hr => (ih2 w ok k hr).mono fun e w' h => by simpa [Steps, hx] using h)
    · have ⟨b, hb⟩ : ∃ b, f = .abs b := Classical.byContradiction fun h => hn fun b hb => h ⟨b, hb⟩
      subst hb
      have e : Steps w ok (.app (.abs b) x) = Yes w ok (L.put x 0 b) := by funext e w'; simp [Steps, L.step, L.beta]
      rw [e]
      simp only [L.most, L.depth] at h1 h2
      exact step_beta b x (by omega) (by omega) (by omega) (by omega) w ok k hr

end Go.Proofs.Ytogdjjleclbgcaa
