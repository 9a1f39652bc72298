/- Beta. -/
import Derived.Test.YtogdjjleclbgcaaPuts
import Derived.Test.YtogdjjleclbgcaaStepAll
namespace Go.Proofs.Ytogdjjleclbgcaa
open Go.RowKit

/-- What Beta hands back. -/
def Betas (w : World) (ok : Nat → Prop) (t : L) (e : Ending) (w' : World) : Prop :=
  match t.beta with
  | some u => Yes w ok u e w'
  | none => e = .returned (.tuple #[Hd.val ⟨0, ⟨#[]⟩, 0, none, 0, 0⟩, .bool false]) ∧ Below w.heap.size w w'

set_option maxRecDepth 100000 in
set_option maxHeartbeats 800000 in
theorem beta_yes (b x : L) (m1 : b.most < 1000000) (m2 : x.most < 1000000) (d1 : b.depth + 0 < 1000000) (d2 : x.depth + 0 < 1000000) (w : World) (ok : Nat → Prop) (k : Hd) (hr : Rep w ok (.app (.abs b) x) k) : Calls Try.prog 15 #[k.val] w (Yes w ok (L.put x 0 b)) := by
  obtain ⟨a, c, k, l, rfl, hok, hc, h0, h9, ⟨a2, c2, kb, rfl, hok2, hc2, h02, hb⟩, hx⟩ := hr
  have ha := h0.lt
  have ha2 := h02.lt
  have HR := Lib.hid (And.intro hb.bound hx.bound)
  have HA := Lib.hid (And.intro h0 (And.intro h9 h02))
  have HM := Lib.hid (And.intro m1 (And.intro m2 (And.intro d1 d2)))
  clear hb hx hok hok2 hc hc2 h9 h02 m1 m2 d1 d2
  obtain ⟨ha1, ha2', ha3, ha4, ha5, ha6⟩ := lts ha
  obtain ⟨c0, c1, c2, c3, c4, c5, c6, c7, c8⟩ := h0
  go_enter Try.func15, Try.ntmps15
  go_wp2
  refine gen2 ?_
  intro W hb hs g0 g1
  clear c0 c1 c2 c3 c4 c5 c6 c7 c8
  have HA : Hid (At0 W a ⟨5, ⟨#[]⟩, 0, some ⟨a2, 0, none⟩, 1, c2⟩ ∧ At9 W a l ∧ At0 W a2 kb) := Lib.hid ⟨HA.out.1.move (hb.block a ha), HA.out.2.1.move (hb.block a ha), HA.out.2.2.move (hb.block a2 ha2)⟩
  have hwd : Below W.heap.size W W.drew := (Below.refl _ _).drew
  have hT : W.grownBy W.drew (some (w.heap.size + 1)) := gb_some (gb_drew _)
  refine G_begin (fun w' => W.grownBy w' (some (w.heap.size + 1))) (by kernel_rfl) ?_
  refine G_take 0 13 rfl (by kernel_rfl) (fun _ _ _ h => h) hT (v := ?_) (.inl ⟨by rfl, ?_⟩) ?_
  rotate_left
  · intro w' hw'; go_simp; try with_reducible rfl
  refine G_take 1 13 rfl (by kernel_rfl) (fun _ _ _ h => h) hT (v := ?_) (.inl ⟨by rfl, ?_⟩) ?_
  rotate_left
  · intro w' hw'; have q := (cells_of_block ((hw'.block w.heap.size (by omega) (by simp; try omega)).trans g0)).2.2.2.2.2.2.2.2; go_simp; try with_reducible rfl
  refine G_take 2 13 rfl (by kernel_rfl) (fun _ _ _ h => h) hT (v := ?_) (.inl ⟨by rfl, ?_⟩) ?_
  rotate_left
  · intro w' hw'; go_simp; try with_reducible rfl
  refine G_take 3 13 rfl (by kernel_rfl) (fun _ _ _ h => h) hT (v := ?_) (.inl ⟨by rfl, ?_⟩) ?_
  rotate_left
  · intro w' hw'; go_simp; try with_reducible rfl
  refine G_take 4 13 rfl (by kernel_rfl) (fun _ _ _ h => h) hT (v := ?_) (.inl ⟨by rfl, ?_⟩) ?_
  rotate_left
  · intro w' hw'; have q := (hw'.cell_far ⟨a, 8, none⟩ (by simp; omega) (by simp; omega)).trans (HA.out.1).2.2.2.2.2.2.2.2; go_simp; try with_reducible rfl
  refine G_take 5 13 rfl (by kernel_rfl) (fun _ _ _ h => h) hT (v := ?_) (.inl ⟨by rfl, ?_⟩) ?_
  rotate_left
  · intro w' hw'; go_simp; try with_reducible rfl
  refine G_take 6 13 rfl (by kernel_rfl) (fun _ _ _ h => h) hT (v := ?_) (.inl ⟨by rfl, ?_⟩) ?_
  rotate_left
  · intro w' hw'; obtain ⟨e0, e1, e2, e3, e4, e5, e6, e7, e8⟩ := HA.out.2.2.move (hw'.block a2 (by omega) (by simp; omega)); go_simp; try with_reducible rfl
  refine G_take 7 13 rfl (by kernel_rfl) (fun _ _ _ h => h) hT (v := ?_) (.inl ⟨by rfl, ?_⟩) ?_
  rotate_left
  · intro w' hw'; go_simp; try with_reducible rfl
  refine G_take 8 13 rfl (by kernel_rfl) (fun _ _ _ h => h) hT (v := ?_) (.inl ⟨by rfl, ?_⟩) ?_
  rotate_left
  · intro w' hw'; have q := (cells_of_block ((hw'.block w.heap.size (by omega) (by simp; try omega)).trans g0)).2.2.2.2.2.2.2.2; go_simp; try with_reducible rfl
  refine G_take 9 13 rfl (by kernel_rfl) (fun _ _ _ h => h) hT (v := ?_) (.inl ⟨by rfl, ?_⟩) ?_
  rotate_left
  · intro w' hw'; go_simp; try with_reducible rfl
  refine G_take 10 13 rfl (by kernel_rfl) (fun _ _ _ h => h) hT (v := ?_) (.inl ⟨by rfl, ?_⟩) ?_
  rotate_left
  · intro w' hw'; obtain ⟨e0, e1, e2, e3, e4, e5, e6, e7, e8⟩ := HA.out.2.1.move (hw'.block a (by omega) (by simp; omega)); go_simp; try with_reducible rfl
  refine G_only 11 rfl (by kernel_rfl) ?_
  intro K hK
  go_simp
  refine (prog_put x HM.out.2.1 HM.out.2.2.2 b HM.out.1 HM.out.2.2.1 _ _ kb l (HR.out.1.below (hb.trans (hwd.mono (by omega)))) (HR.out.2.below (hb.trans (hwd.mono (by omega))))).mono ?_
  rintro e w3 ⟨k3, rfl, hr3, hb3⟩
  have hS3 : W.grownBy w3 none := gb_trans (gb_drew W) (gb_below hb3)
  refine hK _ _ ⟨(gb_some hS3), ?_⟩
  clear hK K
  refine G_only 12 rfl (by kernel_rfl) ?_
  intro K hK
  have p1 := (hS3.block (w.heap.size + 1) (by omega) (by simp)).trans g1
  have f0 := (cells_of_block p1).1
  have f1 := (cells_of_block p1).2.1
  have f2 := (cells_of_block p1).2.2.1
  have f3 := (cells_of_block p1).2.2.2.1
  have f4 := (cells_of_block p1).2.2.2.2.1
  have f5 := (cells_of_block p1).2.2.2.2.2.1
  have f6 := (cells_of_block p1).2.2.2.2.2.2.1
  have f7 := (cells_of_block p1).2.2.2.2.2.2.2.1
  have f8 := (cells_of_block p1).2.2.2.2.2.2.2.2
  have fz := free_of_block p1
  go_simp
  obtain ⟨V, hV, n1, n2, n3⟩ := nineE (.int .i64 k3.op) (.string k3.name) (.int .i64 k3.num) (.int .i64 0) (.string ⟨#[]⟩) (.int .i64 0) (.slice none 0 0) (.slice none 0 0) (.slice k3.A k3.n k3.c) p1
  rw [hV]
  clear hV f0 f1 f2 f3 f4 f5 f6 f7 f8 fz
  refine hK _ _ ⟨(gb_trans hS3 n2), ?_⟩
  clear hK K
  refine G_last 13 rfl (by kernel_rfl) (by kernel_rfl) ?_
  intro K hK
  go_simp
  refine hK _ _ ?_
  clear hK K
  go_wp2
  refine end_rowt k3 (.bool true) rfl (by rfl) (by rfl) rfl n1 ⟨_, rfl, ?_, ?_⟩
  · refine (hr3.bound.grown n2 ?_).imp ?_
    · rintro z ⟨⟨_, hz⟩ | hz, _⟩ e
      · simp at e; omega
      · simp at e hz; omega
    · rintro z ⟨⟨hz, _⟩ | hz, _⟩ _
      · exact .inl hz
      · exact .inr (by simp at hz; omega)
  · exact below_gb (below_gb hb hS3 (by omega) (by simp)) n2 (by have := hS3.size; omega) (by simp)

set_option maxRecDepth 100000 in
set_option maxHeartbeats 800000 in
theorem beta_flat (w : World) (k : Hd) (h6 : (k.op == 6) = false) : Calls Try.prog 15 #[k.val] w (fun e w' => e = .returned (.tuple #[Hd.val ⟨0, ⟨#[]⟩, 0, none, 0, 0⟩, .bool false]) ∧ Below w.heap.size w w') := by
  have hn : (k.op != 6) = true := by simp [bne, h6]
  go_enter Try.func15, Try.ntmps15
  go_wp2
  exact end_rowt ⟨0, ⟨#[]⟩, 0, none, 0, 0⟩ (.bool false) rfl (by rfl) (by rfl) rfl (heap2 w _ _) ⟨rfl, below2 w _ _⟩

set_option maxRecDepth 100000 in
set_option maxHeartbeats 800000 in
theorem beta_none (f x : L) (hn : ∀ b, f ≠ .abs b) (w : World) (ok : Nat → Prop) (k : Hd) (hr : Rep w ok (.app f x) k) : Calls Try.prog 15 #[k.val] w (fun e w' => e = .returned (.tuple #[Hd.val ⟨0, ⟨#[]⟩, 0, none, 0, 0⟩, .bool false]) ∧ Below w.heap.size w w') := by
  obtain ⟨a, c, k, l, rfl, hok, hc, h0, h9, hf, hx⟩ := hr
  have ha := h0.lt
  have h5 := op_ne5 hf hn
  have h5' : (k.op != 5) = true := by simp [bne, h5]
  clear hf hx hok hc hn h9
  obtain ⟨ha1, ha2, ha3, ha4, ha5, ha6⟩ := lts ha
  obtain ⟨c0, c1, c2, c3, c4, c5, c6, c7, c8⟩ := h0
  go_enter Try.func15, Try.ntmps15
  go_wp2
  exact end_rowt ⟨0, ⟨#[]⟩, 0, none, 0, 0⟩ (.bool false) rfl (by rfl) (by rfl) rfl (heap2 w _ _) ⟨rfl, below2 w _ _⟩

theorem op_ne6 {w : World} {ok : Nat → Prop} {t : L} {k : Hd} (h : Rep w ok t k) (hn : ∀ f x, t ≠ .app f x) : (k.op == 6) = false := by
  cases t with
  | free => cases h; rfl
  | var => cases h; rfl
  | bnd n => cases h; rfl
  | abs b => obtain ⟨_, _, _, rfl, _⟩ := h; rfl
  | app f x => exact absurd rfl (hn f x)

theorem beta_calls (t : L) (h1 : t.most < 1000000) (h2 : t.depth < 1000000) (w : World) (ok : Nat → Prop) (k : Hd) (hr : Rep w ok t k) : Calls Try.prog 15 #[k.val] w (Betas w ok t) := by
  by_cases hn : ∀ f x, t ≠ .app f x
  · have e : Betas w ok t = (fun e w' => e = .returned (.tuple #[Hd.val ⟨0, ⟨#[]⟩, 0, none, 0, 0⟩, .bool false]) ∧ Below w.heap.size w w') := by
      funext e w'
      cases t with
      | app f x => exact absurd rfl (hn f x)
      | _ => rfl
    rw [e]
    exact beta_flat w k (op_ne6 hr hn)
  · obtain ⟨f, x, rfl⟩ : ∃ f x, t = .app f x := Classical.byContradiction fun h => hn fun f x e => h ⟨f, x, e⟩
    by_cases hf : ∀ b, f ≠ .abs b
    · have e : Betas w ok (.app f x) = (fun e w' => e = .returned (.tuple #[Hd.val ⟨0, ⟨#[]⟩, 0, none, 0, 0⟩, .bool false]) ∧ Below w.heap.size w w') := by
        funext e w'; simp [Betas, beta_no hf]
      rw [e]
      exact beta_none f x hf w ok k hr
    · obtain ⟨b, rfl⟩ : ∃ b, f = .abs b := Classical.byContradiction fun h => hf fun b e => h ⟨b, e⟩
      simp only [L.most, L.depth] at h1 h2
      exact beta_yes b x (by omega) (by omega) (by omega) (by omega) w ok k hr

end Go.Proofs.Ytogdjjleclbgcaa
