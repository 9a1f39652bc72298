/- tilePut, function 18: a term in the place of the number of an abstraction. -/
import Derived.Test.YtogdjjleclbgcaaBase
import Derived.Test.YtogdjjleclbgcaaRegs
namespace Go.Proofs.Ytogdjjleclbgcaa
open Go.RowKit

set_option maxRecDepth 100000 in
set_option maxHeartbeats 1600000 in
theorem put_abs (b : L) (x : L) (d : Nat) (hd : d < 1000000) (w : World) (ok : Nat → Prop) (k ka : Hd) (hr : Rep w ok (.abs b) k) (hra : Rep w ok x ka)
    (ih : ∀ (w : World) (ok : Nat → Prop) (k ka : Hd) (i : Int), i = (d + 1 : Nat) → Rep w ok b k → Rep w ok x ka → Calls Try.prog 18 #[k.val, ka.val, .int .i64 i] w (Gives w ok (L.put x (d + 1) b))) :
    Calls Try.prog 18 #[k.val, ka.val, .int .i64 d] w (Gives w ok (.abs (L.put x (d + 1) b))) := by
  obtain ⟨a, c, k, rfl, hok, hc, h0, hr⟩ := hr
  have ha := h0.lt
  have HR := Lib.hid hr.bound
  have HC := Lib.hid (And.intro hok hc)
  clear hr hok hc
  have HA := Lib.hid hra.bound
  clear hra
  obtain ⟨ha1, ha2, ha3, ha4, ha5, ha6⟩ := lts ha
  obtain ⟨c0, c1, c2, c3, c4, c5, c6, c7, c8⟩ := h0
  have IH := Lib.hid ih
  clear ih
  obtain ⟨i0, hi0, hj0, hj1, hj2⟩ := info_parts info31
  go_enter Try.func18, Try.ntmps18
  go_wp2
  refine wp_loop_rounds 2 ?_
  rw [rounds_succ]
  go_wp2
  refine gen5 ?_
  intro W hb hs g0 g1 g2 g3 g4
  clear c0 c1 c2 c3 c4 c5 c6 c7 c8
  have hT1 : W.grownBy W.drew none := gb_some (gb_drew _)
  refine G_begin (fun w' => W.grownBy w' none) (by kernel_rfl) ?_
  refine G_take 0 9 rfl (by kernel_rfl) (fun _ _ _ h => h) hT1 (v := ?_) (.inl ⟨by rfl, ?_⟩) ?_
  rotate_left
  · intro w' hw'; go_simp; try with_reducible rfl
  refine G_take 1 9 rfl (by kernel_rfl) (fun _ _ _ h => h) hT1 (v := ?_) (.inl ⟨by rfl, ?_⟩) ?_
  rotate_left
  · intro w' hw'; have q := (hw'.cell_far ⟨w.heap.size + 1 + 1 + 1, 8, none⟩ (by simp; omega) (by simp)).trans (cells_of_block g3).2.2.2.2.2.2.2.2; go_simp; try with_reducible rfl
  refine G_take 2 9 rfl (by kernel_rfl) (fun _ _ _ h => h) hT1 (v := ?_) (.inl ⟨by rfl, ?_⟩) ?_
  rotate_left
  · intro w' hw'; obtain ⟨e0, e1, e2, e3, e4, e5, e6, e7, e8⟩ := cells_of_block ((hw'.block (w.heap.size + 1 + 1 + 1 + 1) (by omega) (by simp)).trans g4); go_simp; try with_reducible rfl
  refine G_take 3 9 rfl (by kernel_rfl) (fun _ _ _ h => h) hT1 (v := ?_) (.inl ⟨by rfl, ?_⟩) ?_
  rotate_left
  · intro w' hw'; obtain ⟨e0, e1, e2, e3, e4, e5, e6, e7, e8⟩ := cells_of_block ((hw'.block (w.heap.size + 1) (by omega) (by simp)).trans g1); go_simp; try with_reducible rfl
  refine G_take 4 9 rfl (by kernel_rfl) (fun _ _ _ h => h) hT1 (v := ?_) (.inl ⟨by rfl, ?_⟩) ?_
  rotate_left
  · intro w' hw'; go_simp; try with_reducible rfl
  refine G_only 5 rfl (by kernel_rfl) ?_
  intro K hK
  go_simp
  go_at_call 18
  refine (IH.out _ _ k ka _ (by simp) (HR.out.below hb.drew) (HA.out.below hb.drew)).mono ?_
  rintro e w1 ⟨k1, rfl, hr1, hb1⟩
  have hz1 : W.heap.size ≤ w1.heap.size := by (have h := hb1.size; simp at h; omega)
  have hS1a : W.grownBy w1 none := gb_trans (gb_drew _) (gb_below hb1)
  refine hK _ _ ⟨(gb_some hS1a), ?_⟩
  clear hK K
  refine G_only 6 rfl (by kernel_rfl) ?_
  intro K hK
  go_simp
  have hS1b : W.grownBy (w1.alloc (Hd.obj k1)) none := gb_trans hS1a (gb_alloc _ _)
  refine hK _ _ ⟨(gb_some hS1b), ?_⟩
  clear hK K
  refine G_only 7 rfl (by kernel_rfl) ?_
  intro K hK
  refine step_append_lies _ (by rfl) _ _ _ (by rfl) w.heap.size 31 i0 _ 9 136 under29 hi0 hj0 hj1 hj2 rfl (by omega) (.slice none 0 0) 0 [] (by rfl) ⟨rfl, .inl ⟨rfl, rfl⟩⟩ ⟨w1.heap.size, 0, none⟩ 1 1 k1.cells (by rfl) (by rfl) (World.news_of_block (Go.heap_alloc_new w1 _)) (by simp [Value.oneCell']) (by omega) (by unfold maxLen; omega) (by omega) (by simp; omega) (w1.heap.size + 1) (by simp) ?_
  intro gg cap w2 hown1 hgrow1 hat1 hlt1
  have hS1 : W.grownBy w2 none := gb_trans hS1b hgrow1
  refine hK _ _ ⟨hS1, ?_⟩
  clear hK K
  refine G_take 8 9 rfl (by kernel_rfl) (fun _ _ _ h => h) hS1 (v := ?_) (.inl ⟨by rfl, ?_⟩) ?_
  rotate_left
  · intro w' hw'; go_simp; try with_reducible rfl
  refine G_last 9 rfl (by kernel_rfl) (by kernel_rfl) ?_
  intro K hK
  have z8 : w2.cell? ⟨w.heap.size + 1 + 1 + 1, 8, none⟩ = some _ := (hS1.cell_far ⟨w.heap.size + 1 + 1 + 1, 8, none⟩ (by simp; omega) (by simp)).trans (cells_of_block g3).2.2.2.2.2.2.2.2
  have zf : w2.frozen? ⟨w.heap.size + 1 + 1 + 1, 8, none⟩ = false := (hS1.frozen_far ⟨w.heap.size + 1 + 1 + 1, 8, none⟩ (by simp; omega) (by simp)).trans (free_of_block g3 8)
  go_simp
  refine hK _ _ ?_
  clear hK K
  have hB : Below w.heap.size w w2 := below_gb hb hS1 (by omega) (by simp)
  have q1 := (hS1.block (w.heap.size + 1 + 1) (by omega) (by simp)).trans g2
  have q2 := (hS1.block (w.heap.size + 1 + 1 + 1) (by omega) (by simp)).trans g3
  have y1 := (hS1.block (w.heap.size + 1) (by omega) (by simp)).trans g1
  have hR1 := hr1.bound.below ((alloc_below w1 k1.obj).grown hgrow1 (by simp) (by simp [Value.ownBlock]))
  obtain ⟨hcap, hgg, hgl⟩ := own_cap hown1
  have hgw : W.heap.size ≤ gg ∧ w1.heap.size < gg := by
    rcases hat1 with h | h
    · simp [Value.ownBlock] at h
    · omega
  have p2 := Go.heap_setCell_same w2 (w.heap.size + 1 + 1 + 1) 8 _ 31 (.slice (some ⟨gg, 0, none⟩) 1 cap) q2
  have p1 := (Go.heap_setCell_other w2 ⟨w.heap.size + 1 + 1 + 1, 8, none⟩ (w.heap.size + 1 + 1) (.slice (some ⟨gg, 0, none⟩) 1 cap) (by simp)).trans q1
  have x1 := (Go.heap_setCell_other w2 ⟨w.heap.size + 1 + 1 + 1, 8, none⟩ (w.heap.size + 1) (.slice (some ⟨gg, 0, none⟩) 1 cap) (by simp; try omega)).trans y1
  have pg := Go.heap_setCell_other w2 ⟨w.heap.size + 1 + 1 + 1, 8, none⟩ gg (.slice (some ⟨gg, 0, none⟩) 1 cap) (by simp; omega)
  have hB2 := below_gb hB (gb_set w2 (w.heap.size + 1 + 1 + 1) 8 (.slice (some ⟨gg, 0, none⟩) 1 cap)) (by omega) (by simp; omega)
  have hR2 := (hR1.grown (gb_set w2 (w.heap.size + 1 + 1 + 1) 8 (.slice (some ⟨gg, 0, none⟩) 1 cap)) (by simp; omega)).imp (ok' := fun z => (ok z ∧ z < w.heap.size) ∨ (W.heap.size ≤ z ∧ z < gg)) (by
    rintro z ⟨⟨hz, hz'⟩ | hz, hz2⟩ _
    · exact .inl ⟨hz, hz'⟩
    · exact .inr ⟨by simpa using hz, by omega⟩)
  have hO2 := own_move hown1 pg
  have hsz2 : gg < (w2.setCell ⟨w.heap.size + 1 + 1 + 1, 8, none⟩ (.slice (some ⟨gg, 0, none⟩) 1 cap)).heap.size := by
    simp [World.setCell]; omega
  generalize hW2 : World.setCell w2 _ _ = W2 at *
  have hgs : w.heap.size + 5 ≤ gg := by omega
  have hA2 := (at0_of_own (k := k1) (r := []) (by simpa using hO2))
  have HK := Lib.hid (And.intro hR2 (And.intro hA2 (And.intro hB2 hsz2)))
  clear hA2 hO2 hsz2 hR2 hB2 hR1 hB pg q1 q2 hS1 hS1a hS1b hT1 hgrow1 hown1 hat1 hb1 hr1 hW2 hgl hgg hz1 hb hlt1 g0 g1 g2 g3 g4 y1
  obtain ⟨e0, e1, e2, e3, e4, e5, e6, e7, e8⟩ := cells_of_block p2
  obtain ⟨f0, f1, f2, f3, f4, f5, f6, f7, f8⟩ := cells_of_block p1
  have fz := free_of_block p1
  go_wp2
  rw [rounds_succ]
  go_wp2
  refine end9 ⟨5, ⟨#[]⟩, 0, some ⟨gg, 0, none⟩, 1, cap⟩ rfl (by rfl) rfl p1 (fun F hF _ => ?_)
  obtain ⟨hR2, hA2, hB2, hsz2⟩ := HK.out
  refine ⟨_, rfl, ⟨gg, cap, k1, rfl, .inr (by omega), hcap, hA2.move (hF.block gg (by omega) (by simp; omega)), (hR2.grown hF (by rintro z (⟨_, hz⟩ | ⟨hz, _⟩) e <;> simp at e <;> omega)).imp ?_⟩, below_gb hB2 hF (by omega) (by simp; try omega)⟩
  rintro x (⟨hx, _⟩ | hx) _
  · exact .inl hx
  · exact .inr (by omega)

set_option maxRecDepth 100000 in
set_option maxHeartbeats 1600000 in
theorem put_app (f y : L) (x : L) (d : Nat) (w : World) (ok : Nat → Prop) (k ka : Hd) (hr : Rep w ok (.app f y) k) (hra : Rep w ok x ka)
    (ihf : ∀ (w : World) (ok : Nat → Prop) (k ka : Hd), Rep w ok f k → Rep w ok x ka → Calls Try.prog 18 #[k.val, ka.val, .int .i64 d] w (Gives w ok (L.put x d f)))
    (ihx : ∀ (w : World) (ok : Nat → Prop) (k ka : Hd), Rep w ok y k → Rep w ok x ka → Calls Try.prog 18 #[k.val, ka.val, .int .i64 d] w (Gives w ok (L.put x d y))) :
    Calls Try.prog 18 #[k.val, ka.val, .int .i64 d] w (Gives w ok (.app (L.put x d f) (L.put x d y))) := by
  obtain ⟨a, c, k, l, rfl, hok, hc, h0, h9, hf, hx⟩ := hr
  have ha := h0.lt
  have HR := Lib.hid (And.intro hf.bound hx.bound)
  have HC := Lib.hid (And.intro hok hc)
  have H9 := Lib.hid h9
  clear hf hx hok hc h9
  have HA := Lib.hid hra.bound
  clear hra
  obtain ⟨ha1, ha2, ha3, ha4, ha5, ha6⟩ := lts ha
  obtain ⟨c0, c1, c2, c3, c4, c5, c6, c7, c8⟩ := h0
  have IH := Lib.hid (And.intro ihf ihx)
  clear ihf ihx
  obtain ⟨i0, hi0, hj0, hj1, hj2⟩ := info_parts info31
  go_enter Try.func18, Try.ntmps18
  go_wp2
  refine wp_loop_rounds 3 ?_
  rw [rounds_succ]
  go_wp2
  refine gen5 ?_
  intro W hb hs g0 g1 g2 g3 g4
  clear c0 c1 c2 c3 c4 c5 c6 c7 c8
  have hT1 : W.grownBy W.drew none := gb_some (gb_drew _)
  refine G_begin (fun w' => W.grownBy w' none) (by kernel_rfl) ?_
  refine G_take 0 9 rfl (by kernel_rfl) (fun _ _ _ h => h) hT1 (v := ?_) (.inl ⟨by rfl, ?_⟩) ?_
  rotate_left
  · intro w' hw'; go_simp; try with_reducible rfl
  refine G_take 1 9 rfl (by kernel_rfl) (fun _ _ _ h => h) hT1 (v := ?_) (.inl ⟨by rfl, ?_⟩) ?_
  rotate_left
  · intro w' hw'; have q := (hw'.cell_far ⟨w.heap.size + 1 + 1 + 1, 8, none⟩ (by simp; omega) (by simp)).trans (cells_of_block g3).2.2.2.2.2.2.2.2; go_simp; try with_reducible rfl
  refine G_take 2 9 rfl (by kernel_rfl) (fun _ _ _ h => h) hT1 (v := ?_) (.inl ⟨by rfl, ?_⟩) ?_
  rotate_left
  · intro w' hw'; obtain ⟨e0, e1, e2, e3, e4, e5, e6, e7, e8⟩ := cells_of_block ((hw'.block (w.heap.size + 1 + 1 + 1 + 1) (by omega) (by simp)).trans g4); go_simp; try with_reducible rfl
  refine G_take 3 9 rfl (by kernel_rfl) (fun _ _ _ h => h) hT1 (v := ?_) (.inl ⟨by rfl, ?_⟩) ?_
  rotate_left
  · intro w' hw'; obtain ⟨e0, e1, e2, e3, e4, e5, e6, e7, e8⟩ := cells_of_block ((hw'.block (w.heap.size + 1) (by omega) (by simp)).trans g1); go_simp; try with_reducible rfl
  refine G_take 4 9 rfl (by kernel_rfl) (fun _ _ _ h => h) hT1 (v := ?_) (.inl ⟨by rfl, ?_⟩) ?_
  rotate_left
  · intro w' hw'; go_simp; try with_reducible rfl
  refine G_only 5 rfl (by kernel_rfl) ?_
  intro K hK
  go_simp
  go_at_call 18
  refine (IH.out.1 _ _ k ka (HR.out.1.below hb.drew) (HA.out.below hb.drew)).mono ?_
  rintro e w1 ⟨k1, rfl, hr1, hb1⟩
  have hz1 : W.heap.size ≤ w1.heap.size := by (have h := hb1.size; simp at h; omega)
  have hS1a : W.grownBy w1 none := gb_trans (gb_drew _) (gb_below hb1)
  refine hK _ _ ⟨(gb_some hS1a), ?_⟩
  clear hK K
  refine G_only 6 rfl (by kernel_rfl) ?_
  intro K hK
  go_simp
  have hS1b : W.grownBy (w1.alloc (Hd.obj k1)) none := gb_trans hS1a (gb_alloc _ _)
  refine hK _ _ ⟨(gb_some hS1b), ?_⟩
  clear hK K
  refine G_only 7 rfl (by kernel_rfl) ?_
  intro K hK
  refine step_append_lies _ (by rfl) _ _ _ (by rfl) w.heap.size 31 i0 _ 9 136 under29 hi0 hj0 hj1 hj2 rfl (by omega) (.slice none 0 0) 0 [] (by rfl) ⟨rfl, .inl ⟨rfl, rfl⟩⟩ ⟨w1.heap.size, 0, none⟩ 1 1 k1.cells (by rfl) (by rfl) (World.news_of_block (Go.heap_alloc_new w1 _)) (by simp [Value.oneCell']) (by omega) (by unfold maxLen; omega) (by omega) (by simp; omega) (w1.heap.size + 1) (by simp) ?_
  intro gg cap w2 hown1 hgrow1 hat1 hlt1
  have hS1 : W.grownBy w2 none := gb_trans hS1b hgrow1
  refine hK _ _ ⟨hS1, ?_⟩
  clear hK K
  refine G_take 8 9 rfl (by kernel_rfl) (fun _ _ _ h => h) hS1 (v := ?_) (.inl ⟨by rfl, ?_⟩) ?_
  rotate_left
  · intro w' hw'; go_simp; try with_reducible rfl
  refine G_last 9 rfl (by kernel_rfl) (by kernel_rfl) ?_
  intro K hK
  have z8 : w2.cell? ⟨w.heap.size + 1 + 1 + 1, 8, none⟩ = some _ := (hS1.cell_far ⟨w.heap.size + 1 + 1 + 1, 8, none⟩ (by simp; omega) (by simp)).trans (cells_of_block g3).2.2.2.2.2.2.2.2
  have zf : w2.frozen? ⟨w.heap.size + 1 + 1 + 1, 8, none⟩ = false := (hS1.frozen_far ⟨w.heap.size + 1 + 1 + 1, 8, none⟩ (by simp; omega) (by simp)).trans (free_of_block g3 8)
  go_simp
  refine hK _ _ ?_
  clear hK K
  have hB : Below w.heap.size w w2 := below_gb hb hS1 (by omega) (by simp)
  have q1 := (hS1.block (w.heap.size + 1 + 1) (by omega) (by simp)).trans g2
  have q2 := (hS1.block (w.heap.size + 1 + 1 + 1) (by omega) (by simp)).trans g3
  have y1 := (hS1.block (w.heap.size + 1) (by omega) (by simp)).trans g1
  have hR1 := hr1.bound.below ((alloc_below w1 k1.obj).grown hgrow1 (by simp) (by simp [Value.ownBlock]))
  obtain ⟨hcap, hgg, hgl⟩ := own_cap hown1
  have hgw : W.heap.size ≤ gg ∧ w1.heap.size < gg := by
    rcases hat1 with h | h
    · simp [Value.ownBlock] at h
    · omega
  have p2 := Go.heap_setCell_same w2 (w.heap.size + 1 + 1 + 1) 8 _ 31 (.slice (some ⟨gg, 0, none⟩) 1 cap) q2
  have p1 := (Go.heap_setCell_other w2 ⟨w.heap.size + 1 + 1 + 1, 8, none⟩ (w.heap.size + 1 + 1) (.slice (some ⟨gg, 0, none⟩) 1 cap) (by simp)).trans q1
  have x1 := (Go.heap_setCell_other w2 ⟨w.heap.size + 1 + 1 + 1, 8, none⟩ (w.heap.size + 1) (.slice (some ⟨gg, 0, none⟩) 1 cap) (by simp; try omega)).trans y1
  have pg := Go.heap_setCell_other w2 ⟨w.heap.size + 1 + 1 + 1, 8, none⟩ gg (.slice (some ⟨gg, 0, none⟩) 1 cap) (by simp; omega)
  have hB2 := below_gb hB (gb_set w2 (w.heap.size + 1 + 1 + 1) 8 (.slice (some ⟨gg, 0, none⟩) 1 cap)) (by omega) (by simp; omega)
  have hR2 := (hR1.grown (gb_set w2 (w.heap.size + 1 + 1 + 1) 8 (.slice (some ⟨gg, 0, none⟩) 1 cap)) (by simp; omega)).imp (ok' := fun z => (ok z ∧ z < w.heap.size) ∨ (W.heap.size ≤ z ∧ z < gg)) (by
    rintro z ⟨⟨hz, hz'⟩ | hz, hz2⟩ _
    · exact .inl ⟨hz, hz'⟩
    · exact .inr ⟨by simpa using hz, by omega⟩)
  have hO2 := own_move hown1 pg
  have hsz2 : gg < (w2.setCell ⟨w.heap.size + 1 + 1 + 1, 8, none⟩ (.slice (some ⟨gg, 0, none⟩) 1 cap)).heap.size := by
    simp [World.setCell]; omega
  generalize hW2 : World.setCell w2 _ _ = W2 at *
  have hgs : w.heap.size + 5 ≤ gg := by omega
  have h9 := H9.out.move (hB2.block a ha)
  have HK := Lib.hid (And.intro hR2 hB2)
  have hW4 : W.heap.size = w.heap.size + 5 := hs
  clear hR2 hB2 hR1 hB pg q1 q2 hS1 hS1a hS1b hT1 hgrow1 hown1 hat1 hb1 hr1 hW2 hgl hgg hz1 hb hlt1 g0 g1 g2 g3 g4 y1
  have haW : a < W2.heap.size := by omega
  obtain ⟨c0, c1, c2, c3, c4, c5, c6, c7, c8⟩ := h9
  go_wp2
  rw [rounds_succ]
  go_wp2
  refine gen1 ?_
  intro W3 hb3 hs3 g3
  have g1 := (hb3.block (w.heap.size + 1 + 1) (by omega)).trans p1
  have g2 := (hb3.block (w.heap.size + 1 + 1 + 1) (by omega)).trans p2
  have z1 := (hb3.block (w.heap.size + 1) (by omega)).trans x1
  have hO3 := own_move hO2 (hb3.block gg (by omega))
  clear c0 c1 c2 c3 c4 c5 c6 c7 c8 p1 p2 x1
  have hT4 : W3.grownBy W3.drew (some gg) := gb_some (gb_drew _)
  refine G_begin (fun w' => W3.grownBy w' (some gg)) (by kernel_rfl) ?_
  refine G_take 0 9 rfl (by kernel_rfl) (fun _ _ _ h => h) hT4 (v := ?_) (.inl ⟨by rfl, ?_⟩) ?_
  rotate_left
  · intro w' hw'; go_simp; try with_reducible rfl
  refine G_take 1 9 rfl (by kernel_rfl) (fun _ _ _ h => h) hT4 (v := ?_) (.inl ⟨by rfl, ?_⟩) ?_
  rotate_left
  · intro w' hw'; have q := (hw'.cell_far ⟨w.heap.size + 1 + 1 + 1, 8, none⟩ (by simp; omega) (by simp; omega)).trans (cells_of_block g2).2.2.2.2.2.2.2.2; go_simp; try with_reducible rfl
  refine G_take 2 9 rfl (by kernel_rfl) (fun _ _ _ h => h) hT4 (v := ?_) (.inl ⟨by rfl, ?_⟩) ?_
  rotate_left
  · intro w' hw'; obtain ⟨e0, e1, e2, e3, e4, e5, e6, e7, e8⟩ := cells_of_block ((hw'.block (W2.heap.size) (by omega) (by simp; omega)).trans g3); go_simp; try with_reducible rfl
  refine G_take 3 9 rfl (by kernel_rfl) (fun _ _ _ h => h) hT4 (v := ?_) (.inl ⟨by rfl, ?_⟩) ?_
  rotate_left
  · intro w' hw'; obtain ⟨e0, e1, e2, e3, e4, e5, e6, e7, e8⟩ := cells_of_block ((hw'.block (w.heap.size + 1) (by omega) (by simp; omega)).trans z1); go_simp; try with_reducible rfl
  refine G_take 4 9 rfl (by kernel_rfl) (fun _ _ _ h => h) hT4 (v := ?_) (.inl ⟨by rfl, ?_⟩) ?_
  rotate_left
  · intro w' hw'; go_simp; try with_reducible rfl
  refine G_only 5 rfl (by kernel_rfl) ?_
  intro K hK
  go_simp
  go_at_call 18
  refine (IH.out.2 _ _ l ka ((HR.out.2.below HK.out.2).grown ((gb_below hb3).trans_none (gb_drew _)) (by simp)) ((HA.out.below HK.out.2).grown ((gb_below hb3).trans_none (gb_drew _)) (by simp))).mono ?_
  rintro e w4 ⟨k2, rfl, hr4, hb4⟩
  have hz4 : W3.heap.size ≤ w4.heap.size := by (have h := hb4.size; simp at h; omega)
  have hS4a : W3.grownBy w4 none := gb_trans (gb_drew _) (gb_below hb4)
  refine hK _ _ ⟨(gb_some hS4a), ?_⟩
  clear hK K
  refine G_only 6 rfl (by kernel_rfl) ?_
  intro K hK
  go_simp
  have hS4b : W3.grownBy (w4.alloc (Hd.obj k2)) none := gb_trans hS4a (gb_alloc _ _)
  refine hK _ _ ⟨(gb_some hS4b), ?_⟩
  clear hK K
  refine G_only 7 rfl (by kernel_rfl) ?_
  intro K hK
  refine step_append_lies _ (by rfl) _ _ _ (by rfl) w.heap.size 31 i0 _ 9 136 under29 hi0 hj0 hj1 hj2 rfl (by omega) (.slice (some ⟨gg, 0, none⟩) 1 cap) 1 k1.cells (by rfl) (own_move hO3 (hS4b.block gg (by omega) (by simp))) ⟨w4.heap.size, 0, none⟩ 1 1 k2.cells (by rfl) (by rfl) (World.news_of_block (Go.heap_alloc_new w4 _)) (by simp [Value.oneCell']) (by omega) (by unfold maxLen; omega) (by omega) (by simp; omega) (w4.heap.size + 1) (by simp) ?_
  intro g9 cap9 w5 hown4 hgrow4 hat4 hlt4
  have hS4 : W3.grownBy w5 (some gg) := gb_trans hS4b hgrow4
  refine hK _ _ ⟨hS4, ?_⟩
  clear hK K
  refine G_take 8 9 rfl (by kernel_rfl) (fun _ _ _ h => h) hS4 (v := ?_) (.inl ⟨by rfl, ?_⟩) ?_
  rotate_left
  · intro w' hw'; go_simp; try with_reducible rfl
  refine G_last 9 rfl (by kernel_rfl) (by kernel_rfl) ?_
  intro K hK
  have z8 : w5.cell? ⟨w.heap.size + 1 + 1 + 1, 8, none⟩ = some _ := (hS4.cell_far ⟨w.heap.size + 1 + 1 + 1, 8, none⟩ (by simp; omega) (by simp; omega)).trans (cells_of_block g2).2.2.2.2.2.2.2.2
  have zf : w5.frozen? ⟨w.heap.size + 1 + 1 + 1, 8, none⟩ = false := (hS4.frozen_far ⟨w.heap.size + 1 + 1 + 1, 8, none⟩ (by simp; omega) (by simp; omega)).trans (free_of_block g2 8)
  go_simp
  refine hK _ _ ?_
  clear hK K
  have hB2 := HK.out.2
  have hB5 : Below w.heap.size w w5 := below_gb (below_gb hB2 (gb_below hb3) (by omega) (by simp)) hS4 (by omega) (by simp; omega)
  have q1 := (hS4.block (w.heap.size + 1 + 1) (by omega) (by simp; omega)).trans g1
  have q2 := (hS4.block (w.heap.size + 1 + 1 + 1) (by omega) (by simp; omega)).trans g2
  have hR1 := ((HK.out.1.below hb3).grown hS4 (by rintro z (⟨_, hz⟩ | ⟨_, hz⟩) e <;> simp at e <;> omega))
  have hR4 := (hr4.bound.below (alloc_below w4 k2.obj)).grown hgrow4 (by
    rintro z ⟨⟨_, hz⟩ | hz, _⟩ e
    · simp [Value.ownBlock] at e; omega
    · simp [Value.ownBlock] at e hz; omega)
  obtain ⟨hcap9, hg9, hgl9⟩ := own_cap hown4
  have hgw9 : W.heap.size ≤ g9 := by
    rcases hat4 with h | h
    · simp [Value.ownBlock] at h; omega
    · omega
  have p2 := Go.heap_setCell_same w5 (w.heap.size + 1 + 1 + 1) 8 _ 31 (.slice (some ⟨g9, 0, none⟩) 2 cap9) q2
  have p1 := (Go.heap_setCell_other w5 ⟨w.heap.size + 1 + 1 + 1, 8, none⟩ (w.heap.size + 1 + 1) (.slice (some ⟨g9, 0, none⟩) 2 cap9) (by simp)).trans q1
  have pg := Go.heap_setCell_other w5 ⟨w.heap.size + 1 + 1 + 1, 8, none⟩ g9 (.slice (some ⟨g9, 0, none⟩) 2 cap9) (by simp; omega)
  have hB6 := below_gb hB5 (gb_set w5 (w.heap.size + 1 + 1 + 1) 8 (.slice (some ⟨g9, 0, none⟩) 2 cap9)) (by omega) (by simp; omega)
  have hR6 := (hR1.grown (gb_set w5 (w.heap.size + 1 + 1 + 1) 8 (.slice (some ⟨g9, 0, none⟩) 2 cap9)) (by rintro z (⟨_, hz⟩ | ⟨_, hz⟩) e <;> simp at e <;> omega)).imp (ok' := fun z => ok z ∧ z < w.heap.size ∨ w.heap.size + 5 ≤ z) (by
    rintro z (hz | ⟨hz, _⟩) _
    · exact .inl hz
    · exact .inr (by omega))
  have hR7 := (hR4.grown (gb_set w5 (w.heap.size + 1 + 1 + 1) 8 (.slice (some ⟨g9, 0, none⟩) 2 cap9)) (by
    rintro z ⟨⟨_, hz⟩ | hz, _⟩ e
    · simp at e; omega
    · simp at e hz; omega)).imp (ok' := fun z => ok z ∧ z < w.heap.size ∨ w.heap.size + 5 ≤ z) (by
    rintro z ⟨⟨hz, hz'⟩ | hz, _⟩ _
    · exact .inl ⟨hz, hz'⟩
    · exact .inr (by simp at hz; omega))
  have hA6 := (at0_of_own (k := k1) (r := k2.cells) hown4).move pg
  have hA7 := (at9_of_own (k := k1) (l := k2) (r := []) (by simpa using hown4)).move pg
  have hsz6 : g9 < (w5.setCell ⟨w.heap.size + 1 + 1 + 1, 8, none⟩ (.slice (some ⟨g9, 0, none⟩) 2 cap9)).heap.size := by
    simp [World.setCell]; omega
  generalize hW6 : World.setCell w5 _ _ = W6 at *
  have HF := Lib.hid (And.intro hR6 (And.intro hR7 (And.intro hA6 (And.intro hA7 (And.intro hB6 hsz6)))))
  clear hR6 hR7 hA6 hA7 hB6 hsz6 hR1 hR4 hB5 hB2 pg q1 q2 hS4 hS4a hS4b hT4 hgrow4 hown4 hat4 hb4 hr4 hW6 hO3 hO2 hb3 g1 g2 g3 hg9 hgl9 HK hlt4 z1
  obtain ⟨e0, e1, e2, e3, e4, e5, e6, e7, e8⟩ := cells_of_block p2
  obtain ⟨f0, f1, f2, f3, f4, f5, f6, f7, f8⟩ := cells_of_block p1
  have fz := free_of_block p1
  go_wp2
  rw [rounds_succ]
  go_wp2
  refine end9 ⟨6, ⟨#[]⟩, 0, some ⟨g9, 0, none⟩, 2, cap9⟩ rfl (by rfl) rfl p1 (fun F hF _ => ?_)
  obtain ⟨hR6, hR7, hA6, hA7, hB6, hsz6⟩ := HF.out
  refine ⟨_, rfl, ⟨g9, cap9, k1, k2, rfl, .inr (by omega), hcap9, hA6.move (hF.block g9 (by omega) (by simp; omega)), hA7.move (hF.block g9 (by omega) (by simp; omega)),
    (hR6.grown hF (by simp; omega)).imp ?_, (hR7.grown hF (by simp; omega)).imp ?_⟩, below_gb hB6 hF (by omega) (by simp; try omega)⟩ <;>
  · rintro z (⟨hz, _⟩ | hz) _
    · exact .inl hz
    · exact .inr (by omega)

end Go.Proofs.Ytogdjjleclbgcaa
