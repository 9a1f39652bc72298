/- term.Compare, but for the kids. -/
import Derived.Test.YtogdjjleclbgcaaTcmp
namespace Go.Proofs.Ytogdjjleclbgcaa
open Go.RowKit

set_option maxRecDepth 100000 in
set_option maxHeartbeats 800000 in
theorem compare_abs (k l : Hd) (h5 : (k.op != 5) = false) (Pk : Int → Prop) (w : World) (hk : ∀ w', Below w.heap.size w w' → Calls Try.prog 34 #[.slice k.A k.n k.c, .slice l.A l.n l.c, .func (.func 25) #[] #[]] w' (fun e w'' => ∃ r : Int, e = .returned (.int .i64 r) ∧ Pk r ∧ Below w'.heap.size w' w'')) :
    Calls Try.prog 25 #[k.val, l.val] w (fun e w' => ∃ r : Int, e = .returned (.int .i64 (orI [cmpI k.op l.op, 0, cmpI k.num l.num, 0, r])) ∧ Pk r ∧ Below w.heap.size w w') := by
  have HK := Lib.hid hk
  clear hk
  go_enter Try.func25, Try.ntmps25
  go_wp2
  refine gen2 ?_
  intro W hb hs g0 g1
  have hs' : w.heap.size + 2 ≤ W.heap.size := by omega
  clear hs
  have hT : W.grownBy W.drew none := gb_drew _
  refine G_begin (fun w' => W.grownBy w' none) (by kernel_rfl) ?_
  refine G_take 0 23 rfl (by kernel_rfl) (fun _ _ _ h => h) hT (v := ?_) (.inl ⟨by rfl, ?_⟩) ?_
  rotate_left
  · intro w' hw'; go_simp; try with_reducible rfl
  refine G_take 1 23 rfl (by kernel_rfl) (fun _ _ _ h => h) hT (v := ?_) (.inl ⟨by rfl, ?_⟩) ?_
  rotate_left
  · intro w' hw'; have q := (cells_of_block ((hw'.block (w.heap.size) (by omega) (by simp)).trans g0)).1; go_simp; try with_reducible rfl
  refine G_take 2 23 rfl (by kernel_rfl) (fun _ _ _ h => h) hT (v := ?_) (.inl ⟨by rfl, ?_⟩) ?_
  rotate_left
  · intro w' hw'; go_simp; try with_reducible rfl
  refine G_take 3 23 rfl (by kernel_rfl) (fun _ _ _ h => h) hT (v := ?_) (.inl ⟨by rfl, ?_⟩) ?_
  rotate_left
  · intro w' hw'; have q := (cells_of_block ((hw'.block (w.heap.size + 1) (by omega) (by simp)).trans g1)).1; go_simp; try with_reducible rfl
  refine G_take 5 23 rfl (by kernel_rfl) (fun _ _ _ h => h) hT (v := ?_) (.inl ⟨by rfl, ?_⟩) ?_
  rotate_left
  · intro w' hw'; go_simp; try with_reducible rfl
  refine G_take 6 23 rfl (by kernel_rfl) (fun _ _ _ h => h) hT (v := ?_) (.inl ⟨by rfl, ?_⟩) ?_
  rotate_left
  · intro w' hw'; go_simp; try with_reducible rfl
  refine G_take 7 23 rfl (by kernel_rfl) (fun _ _ _ h => h) hT (v := ?_) (.inl ⟨by rfl, ?_⟩) ?_
  rotate_left
  · intro w' hw'; have q := (cells_of_block ((hw'.block (w.heap.size) (by omega) (by simp)).trans g0)).2.2.1; go_simp; try with_reducible rfl
  refine G_take 8 23 rfl (by kernel_rfl) (fun _ _ _ h => h) hT (v := ?_) (.inl ⟨by rfl, ?_⟩) ?_
  rotate_left
  · intro w' hw'; go_simp; try with_reducible rfl
  refine G_take 9 23 rfl (by kernel_rfl) (fun _ _ _ h => h) hT (v := ?_) (.inl ⟨by rfl, ?_⟩) ?_
  rotate_left
  · intro w' hw'; have q := (cells_of_block ((hw'.block (w.heap.size + 1) (by omega) (by simp)).trans g1)).2.2.1; go_simp; try with_reducible rfl
  refine G_take 11 23 rfl (by kernel_rfl) (fun _ _ _ h => h) hT (v := ?_) (.inl ⟨by rfl, ?_⟩) ?_
  rotate_left
  · intro w' hw'; go_simp; try with_reducible rfl
  refine G_take 12 23 rfl (by kernel_rfl) (fun _ _ _ h => h) hT (v := ?_) (.inl ⟨by rfl, ?_⟩) ?_
  rotate_left
  · intro w' hw'; obtain ⟨e0, e1, e2, e3, e4, e5, e6, e7, e8⟩ := cells_of_block ((hw'.block (w.heap.size) (by omega) (by simp)).trans g0); go_simp; try with_reducible rfl
  refine G_take 13 23 rfl (by kernel_rfl) (fun _ _ _ h => h) hT (v := ?_) (.inl ⟨by rfl, ?_⟩) ?_
  rotate_left
  · intro w' hw'; go_simp; try with_reducible rfl
  refine G_take 14 23 rfl (by kernel_rfl) (fun _ _ _ h => h) hT (v := ?_) (.inl ⟨by rfl, ?_⟩) ?_
  rotate_left
  · intro w' hw'; obtain ⟨e0, e1, e2, e3, e4, e5, e6, e7, e8⟩ := cells_of_block ((hw'.block (w.heap.size + 1) (by omega) (by simp)).trans g1); go_simp; try with_reducible rfl
  refine G_take 16 23 rfl (by kernel_rfl) (fun _ _ _ h => h) hT (v := ?_) (.inl ⟨by rfl, ?_⟩) ?_
  rotate_left
  · intro w' hw'; go_simp; try with_reducible rfl
  refine G_take 17 23 rfl (by kernel_rfl) (fun _ _ _ h => h) hT (v := ?_) (.inl ⟨by rfl, ?_⟩) ?_
  rotate_left
  · intro w' hw'; have q := (cells_of_block ((hw'.block (w.heap.size) (by omega) (by simp)).trans g0)).2.2.2.2.2.2.2.2; go_simp; try with_reducible rfl
  refine G_take 18 23 rfl (by kernel_rfl) (fun _ _ _ h => h) hT (v := ?_) (.inl ⟨by rfl, ?_⟩) ?_
  rotate_left
  · intro w' hw'; go_simp; try with_reducible rfl
  refine G_take 19 23 rfl (by kernel_rfl) (fun _ _ _ h => h) hT (v := ?_) (.inl ⟨by rfl, ?_⟩) ?_
  rotate_left
  · intro w' hw'; have q := (cells_of_block ((hw'.block (w.heap.size + 1) (by omega) (by simp)).trans g1)).2.2.2.2.2.2.2.2; go_simp; try with_reducible rfl
  refine G_only 4 rfl (by kernel_rfl) ?_
  intro K hK
  go_simp
  refine (cmp_int k.op l.op _).mono ?_
  rintro e w9 ⟨rfl, rfl⟩
  refine hK _ _ ⟨hT, ?_⟩
  clear hK K
  refine G_only 10 rfl (by kernel_rfl) ?_
  intro K hK
  go_simp
  refine (cmp_int k.num l.num _).mono ?_
  rintro e w9 ⟨rfl, rfl⟩
  refine hK _ _ ⟨hT, ?_⟩
  clear hK K
  refine G_only 15 rfl (by kernel_rfl) ?_
  intro K hK
  go_simp
  refine (cmp_types _).mono ?_
  rintro e w3 ⟨rfl, hb3⟩
  have hT3 : W.grownBy w3 none := gb_trans hT (gb_below hb3)
  refine hK _ _ ⟨hT3, ?_⟩
  clear hK K
  refine G_only 20 rfl (by kernel_rfl) ?_
  intro K hK
  go_simp
  refine (HK.out _ (below_gb hb hT3 (by omega) (by simp))).mono ?_
  rintro e w4 ⟨r, rfl, hr, hb4⟩
  have hT4 : W.grownBy w4 none := gb_trans hT3 (gb_below hb4)
  refine hK _ _ ⟨hT4, ?_⟩
  clear hK K
  refine G_only 21 rfl (by kernel_rfl) ?_
  intro K hK
  go_simp
  have hT5 : W.grownBy (w4.alloc (.cells #[.int .i64 (cmpI k.op l.op), .int .i64 0, .int .i64 (cmpI k.num l.num), .int .i64 0, .int .i64 r] 3)) none := gb_trans hT4 (gb_alloc _ _)
  refine hK _ _ ⟨hT5, ?_⟩
  clear hK K
  refine G_only 22 rfl (by kernel_rfl) ?_
  intro K hK
  have hh : (w4.alloc (.cells #[.int .i64 (cmpI k.op l.op), .int .i64 0, .int .i64 (cmpI k.num l.num), .int .i64 0, .int .i64 r] 3)).heap[w4.heap.size]? = some _ := Go.heap_alloc_new w4 _
  go_simp
  refine (or_calls _ (cmpI k.op l.op) 0 (cmpI k.num l.num) 0 r _ (cell_of_row _ _ 0 _ _ _ hh) (cell_of_row _ _ 1 _ _ _ hh) (cell_of_row _ _ 2 _ _ _ hh) (cell_of_row _ _ 3 _ _ _ hh) (cell_of_row _ _ 4 _ _ _ hh)).mono ?_
  rintro e w9 ⟨rfl, rfl⟩
  refine hK _ _ ⟨hT5, ?_⟩
  clear hK K
  refine G_last 23 rfl (by kernel_rfl) (by kernel_rfl) ?_
  intro K hK
  go_simp
  refine hK _ _ ?_
  clear hK K
  go_wp2
  go_ret
  exact ⟨r, rfl, hr, below_gb hb hT5 (by omega) (by simp)⟩

set_option maxRecDepth 100000 in
set_option maxHeartbeats 800000 in
theorem compare_other (k l : Hd) (h5 : (k.op != 5) = true) (cn : Int) (hN : ∀ w, Calls Try.prog 30 #[.string k.name, .string l.name] w (fun e w' => e = .returned (.int .i64 cn) ∧ w' = w)) (Pk : Int → Prop) (w : World) (hk : ∀ w', Below w.heap.size w w' → Calls Try.prog 34 #[.slice k.A k.n k.c, .slice l.A l.n l.c, .func (.func 25) #[] #[]] w' (fun e w'' => ∃ r : Int, e = .returned (.int .i64 r) ∧ Pk r ∧ Below w'.heap.size w' w'')) :
    Calls Try.prog 25 #[k.val, l.val] w (fun e w' => ∃ r : Int, e = .returned (.int .i64 (orI [cmpI k.op l.op, cn, cmpI k.num l.num, 0, r])) ∧ Pk r ∧ Below w.heap.size w w') := by
  have HK := Lib.hid hk
  clear hk
  go_enter Try.func25, Try.ntmps25
  go_wp2_with (go_at_call 30; refine (hN _).mono ?_; rintro e w9 ⟨rfl, rfl⟩)
  refine gen2 ?_
  intro W hb hs g0 g1
  have hs' : w.heap.size + 2 ≤ W.heap.size := by omega
  clear hs
  have hT : W.grownBy W.drew none := gb_drew _
  refine G_begin (fun w' => W.grownBy w' none) (by kernel_rfl) ?_
  refine G_take 0 23 rfl (by kernel_rfl) (fun _ _ _ h => h) hT (v := ?_) (.inl ⟨by rfl, ?_⟩) ?_
  rotate_left
  · intro w' hw'; go_simp; try with_reducible rfl
  refine G_take 1 23 rfl (by kernel_rfl) (fun _ _ _ h => h) hT (v := ?_) (.inl ⟨by rfl, ?_⟩) ?_
  rotate_left
  · intro w' hw'; have q := (cells_of_block ((hw'.block (w.heap.size) (by omega) (by simp)).trans g0)).1; go_simp; try with_reducible rfl
  refine G_take 2 23 rfl (by kernel_rfl) (fun _ _ _ h => h) hT (v := ?_) (.inl ⟨by rfl, ?_⟩) ?_
  rotate_left
  · intro w' hw'; go_simp; try with_reducible rfl
  refine G_take 3 23 rfl (by kernel_rfl) (fun _ _ _ h => h) hT (v := ?_) (.inl ⟨by rfl, ?_⟩) ?_
  rotate_left
  · intro w' hw'; have q := (cells_of_block ((hw'.block (w.heap.size + 1) (by omega) (by simp)).trans g1)).1; go_simp; try with_reducible rfl
  refine G_take 5 23 rfl (by kernel_rfl) (fun _ _ _ h => h) hT (v := ?_) (.inl ⟨by rfl, ?_⟩) ?_
  rotate_left
  · intro w' hw'; go_simp; try with_reducible rfl
  refine G_take 6 23 rfl (by kernel_rfl) (fun _ _ _ h => h) hT (v := ?_) (.inl ⟨by rfl, ?_⟩) ?_
  rotate_left
  · intro w' hw'; go_simp; try with_reducible rfl
  refine G_take 7 23 rfl (by kernel_rfl) (fun _ _ _ h => h) hT (v := ?_) (.inl ⟨by rfl, ?_⟩) ?_
  rotate_left
  · intro w' hw'; have q := (cells_of_block ((hw'.block (w.heap.size) (by omega) (by simp)).trans g0)).2.2.1; go_simp; try with_reducible rfl
  refine G_take 8 23 rfl (by kernel_rfl) (fun _ _ _ h => h) hT (v := ?_) (.inl ⟨by rfl, ?_⟩) ?_
  rotate_left
  · intro w' hw'; go_simp; try with_reducible rfl
  refine G_take 9 23 rfl (by kernel_rfl) (fun _ _ _ h => h) hT (v := ?_) (.inl ⟨by rfl, ?_⟩) ?_
  rotate_left
  · intro w' hw'; have q := (cells_of_block ((hw'.block (w.heap.size + 1) (by omega) (by simp)).trans g1)).2.2.1; go_simp; try with_reducible rfl
  refine G_take 11 23 rfl (by kernel_rfl) (fun _ _ _ h => h) hT (v := ?_) (.inl ⟨by rfl, ?_⟩) ?_
  rotate_left
  · intro w' hw'; go_simp; try with_reducible rfl
  refine G_take 12 23 rfl (by kernel_rfl) (fun _ _ _ h => h) hT (v := ?_) (.inl ⟨by rfl, ?_⟩) ?_
  rotate_left
  · intro w' hw'; obtain ⟨e0, e1, e2, e3, e4, e5, e6, e7, e8⟩ := cells_of_block ((hw'.block (w.heap.size) (by omega) (by simp)).trans g0); go_simp; try with_reducible rfl
  refine G_take 13 23 rfl (by kernel_rfl) (fun _ _ _ h => h) hT (v := ?_) (.inl ⟨by rfl, ?_⟩) ?_
  rotate_left
  · intro w' hw'; go_simp; try with_reducible rfl
  refine G_take 14 23 rfl (by kernel_rfl) (fun _ _ _ h => h) hT (v := ?_) (.inl ⟨by rfl, ?_⟩) ?_
  rotate_left
  · intro w' hw'; obtain ⟨e0, e1, e2, e3, e4, e5, e6, e7, e8⟩ := cells_of_block ((hw'.block (w.heap.size + 1) (by omega) (by simp)).trans g1); go_simp; try with_reducible rfl
  refine G_take 16 23 rfl (by kernel_rfl) (fun _ _ _ h => h) hT (v := ?_) (.inl ⟨by rfl, ?_⟩) ?_
  rotate_left
  · intro w' hw'; go_simp; try with_reducible rfl
  refine G_take 17 23 rfl (by kernel_rfl) (fun _ _ _ h => h) hT (v := ?_) (.inl ⟨by rfl, ?_⟩) ?_
  rotate_left
  · intro w' hw'; have q := (cells_of_block ((hw'.block (w.heap.size) (by omega) (by simp)).trans g0)).2.2.2.2.2.2.2.2; go_simp; try with_reducible rfl
  refine G_take 18 23 rfl (by kernel_rfl) (fun _ _ _ h => h) hT (v := ?_) (.inl ⟨by rfl, ?_⟩) ?_
  rotate_left
  · intro w' hw'; go_simp; try with_reducible rfl
  refine G_take 19 23 rfl (by kernel_rfl) (fun _ _ _ h => h) hT (v := ?_) (.inl ⟨by rfl, ?_⟩) ?_
  rotate_left
  · intro w' hw'; have q := (cells_of_block ((hw'.block (w.heap.size + 1) (by omega) (by simp)).trans g1)).2.2.2.2.2.2.2.2; go_simp; try with_reducible rfl
  refine G_only 4 rfl (by kernel_rfl) ?_
  intro K hK
  go_simp
  refine (cmp_int k.op l.op _).mono ?_
  rintro e w9 ⟨rfl, rfl⟩
  refine hK _ _ ⟨hT, ?_⟩
  clear hK K
  refine G_only 10 rfl (by kernel_rfl) ?_
  intro K hK
  go_simp
  refine (cmp_int k.num l.num _).mono ?_
  rintro e w9 ⟨rfl, rfl⟩
  refine hK _ _ ⟨hT, ?_⟩
  clear hK K
  refine G_only 15 rfl (by kernel_rfl) ?_
  intro K hK
  go_simp
  refine (cmp_types _).mono ?_
  rintro e w3 ⟨rfl, hb3⟩
  have hT3 : W.grownBy w3 none := gb_trans hT (gb_below hb3)
  refine hK _ _ ⟨hT3, ?_⟩
  clear hK K
  refine G_only 20 rfl (by kernel_rfl) ?_
  intro K hK
  go_simp
  refine (HK.out _ (below_gb hb hT3 (by omega) (by simp))).mono ?_
  rintro e w4 ⟨r, rfl, hr, hb4⟩
  have hT4 : W.grownBy w4 none := gb_trans hT3 (gb_below hb4)
  refine hK _ _ ⟨hT4, ?_⟩
  clear hK K
  refine G_only 21 rfl (by kernel_rfl) ?_
  intro K hK
  go_simp
  have hT5 : W.grownBy (w4.alloc (.cells #[.int .i64 (cmpI k.op l.op), .int .i64 cn, .int .i64 (cmpI k.num l.num), .int .i64 0, .int .i64 r] 3)) none := gb_trans hT4 (gb_alloc _ _)
  refine hK _ _ ⟨hT5, ?_⟩
  clear hK K
  refine G_only 22 rfl (by kernel_rfl) ?_
  intro K hK
  have hh : (w4.alloc (.cells #[.int .i64 (cmpI k.op l.op), .int .i64 cn, .int .i64 (cmpI k.num l.num), .int .i64 0, .int .i64 r] 3)).heap[w4.heap.size]? = some _ := Go.heap_alloc_new w4 _
  go_simp
  refine (or_calls _ (cmpI k.op l.op) cn (cmpI k.num l.num) 0 r _ (cell_of_row _ _ 0 _ _ _ hh) (cell_of_row _ _ 1 _ _ _ hh) (cell_of_row _ _ 2 _ _ _ hh) (cell_of_row _ _ 3 _ _ _ hh) (cell_of_row _ _ 4 _ _ _ hh)).mono ?_
  rintro e w9 ⟨rfl, rfl⟩
  refine hK _ _ ⟨hT5, ?_⟩
  clear hK K
  refine G_last 23 rfl (by kernel_rfl) (by kernel_rfl) ?_
  intro K hK
  go_simp
  refine hK _ _ ?_
  clear hK K
  go_wp2
  go_ret
  exact ⟨r, rfl, hr, below_gb hb hT5 (by omega) (by simp)⟩

end Go.Proofs.Ytogdjjleclbgcaa
