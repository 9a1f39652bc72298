/- types.Compare at no types. -/
import Derived.Test.YtogdjjleclbgcaaOrr
import Derived.Test.YtogdjjleclbgcaaTypes
import Derived.Test.YtogdjjleclbgcaaStepAll
namespace Go.Proofs.Ytogdjjleclbgcaa
open Go.RowKit

set_option maxRecDepth 100000 in
set_option maxHeartbeats 800000 in
theorem cmp_nil25 (w : World) : Calls Try.prog 42 #[.slice none 0 0, .slice none 0 0] w (fun e w' => e = .returned (.int .i64 0) ∧ w' = w) := by
  go_enter Try.func42, Try.ntmps42
  go_wp2
  refine wp_loop_rounds 1 ?_
  rw [rounds_succ]
  go_wp2
  go_ret
  exact ⟨rfl, rfl⟩
set_option maxRecDepth 100000 in
set_option maxHeartbeats 800000 in
theorem cmp_nil26 (w : World) (fv : Value) : Calls Try.prog 43 #[.slice none 0 0, .slice none 0 0, fv] w (fun e w' => e = .returned (.int .i64 0) ∧ w' = w) := by
  go_enter Try.func43, Try.ntmps43
  go_wp2
  refine wp_loop_rounds 1 ?_
  rw [rounds_succ]
  go_wp2
  go_ret
  exact ⟨rfl, rfl⟩

theorem cmp_00 (w : World) : Calls Try.prog 32 #[.int .i64 0, .int .i64 0] w (fun e w' => e = .returned (.int .i64 0) ∧ w' = w) := cmp_int 0 0 w

set_option maxRecDepth 100000 in
set_option maxHeartbeats 800000 in
theorem cmp_types (w : World) : Calls Try.prog 33 #[Z, Z] w (fun e w' => e = .returned (.int .i64 0) ∧ Below w.heap.size w w') := by
  go_enter Try.func33, Try.ntmps33
  go_wp2
  refine gen2 ?_
  intro W hb hs g0 g1
  have hs' : w.heap.size + 2 ≤ W.heap.size := by omega
  clear hs
  have hT : W.grownBy W.drew none := gb_drew _
  refine G_begin (fun w' => W.grownBy w' none) (by kernel_rfl) ?_
  refine G_take 0 27 rfl (by kernel_rfl) (fun _ _ _ h => h) hT (v := ?_) (.inl ⟨by rfl, ?_⟩) ?_
  rotate_left
  · intro w' hw'; go_simp; try with_reducible rfl
  refine G_take 1 27 rfl (by kernel_rfl) (fun _ _ _ h => h) hT (v := ?_) (.inl ⟨by rfl, ?_⟩) ?_
  rotate_left
  · intro w' hw'; have q := (cells_of_Z ((hw'.block (w.heap.size) (by omega) (by simp)).trans g0)).1; go_simp; try with_reducible rfl
  refine G_take 2 27 rfl (by kernel_rfl) (fun _ _ _ h => h) hT (v := ?_) (.inl ⟨by rfl, ?_⟩) ?_
  rotate_left
  · intro w' hw'; go_simp; try with_reducible rfl
  refine G_take 3 27 rfl (by kernel_rfl) (fun _ _ _ h => h) hT (v := ?_) (.inl ⟨by rfl, ?_⟩) ?_
  rotate_left
  · intro w' hw'; have q := (cells_of_Z ((hw'.block (w.heap.size + 1) (by omega) (by simp)).trans g1)).1; go_simp; try with_reducible rfl
  refine G_take 5 27 rfl (by kernel_rfl) (fun _ _ _ h => h) hT (v := ?_) (.inl ⟨by rfl, ?_⟩) ?_
  rotate_left
  · intro w' hw'; go_simp; try with_reducible rfl
  refine G_take 6 27 rfl (by kernel_rfl) (fun _ _ _ h => h) hT (v := ?_) (.inl ⟨by rfl, ?_⟩) ?_
  rotate_left
  · intro w' hw'; have q := (cells_of_Z ((hw'.block (w.heap.size) (by omega) (by simp)).trans g0)).2.1; go_simp; try with_reducible rfl
  refine G_take 7 27 rfl (by kernel_rfl) (fun _ _ _ h => h) hT (v := ?_) (.inl ⟨by rfl, ?_⟩) ?_
  rotate_left
  · intro w' hw'; go_simp; try with_reducible rfl
  refine G_take 8 27 rfl (by kernel_rfl) (fun _ _ _ h => h) hT (v := ?_) (.inl ⟨by rfl, ?_⟩) ?_
  rotate_left
  · intro w' hw'; have q := (cells_of_Z ((hw'.block (w.heap.size + 1) (by omega) (by simp)).trans g1)).2.1; go_simp; try with_reducible rfl
  refine G_take 10 27 rfl (by kernel_rfl) (fun _ _ _ h => h) hT (v := ?_) (.inl ⟨by rfl, ?_⟩) ?_
  rotate_left
  · intro w' hw'; go_simp; try with_reducible rfl
  refine G_take 11 27 rfl (by kernel_rfl) (fun _ _ _ h => h) hT (v := ?_) (.inl ⟨by rfl, ?_⟩) ?_
  rotate_left
  · intro w' hw'; have q := (cells_of_Z ((hw'.block (w.heap.size) (by omega) (by simp)).trans g0)).2.2.1; go_simp; try with_reducible rfl
  refine G_take 12 27 rfl (by kernel_rfl) (fun _ _ _ h => h) hT (v := ?_) (.inl ⟨by rfl, ?_⟩) ?_
  rotate_left
  · intro w' hw'; go_simp; try with_reducible rfl
  refine G_take 13 27 rfl (by kernel_rfl) (fun _ _ _ h => h) hT (v := ?_) (.inl ⟨by rfl, ?_⟩) ?_
  rotate_left
  · intro w' hw'; have q := (cells_of_Z ((hw'.block (w.heap.size + 1) (by omega) (by simp)).trans g1)).2.2.1; go_simp; try with_reducible rfl
  refine G_take 15 27 rfl (by kernel_rfl) (fun _ _ _ h => h) hT (v := ?_) (.inl ⟨by rfl, ?_⟩) ?_
  rotate_left
  · intro w' hw'; go_simp; try with_reducible rfl
  refine G_take 16 27 rfl (by kernel_rfl) (fun _ _ _ h => h) hT (v := ?_) (.inl ⟨by rfl, ?_⟩) ?_
  rotate_left
  · intro w' hw'; have q := (cells_of_Z ((hw'.block (w.heap.size) (by omega) (by simp)).trans g0)).2.2.2.1; go_simp; try with_reducible rfl
  refine G_take 17 27 rfl (by kernel_rfl) (fun _ _ _ h => h) hT (v := ?_) (.inl ⟨by rfl, ?_⟩) ?_
  rotate_left
  · intro w' hw'; go_simp; try with_reducible rfl
  refine G_take 18 27 rfl (by kernel_rfl) (fun _ _ _ h => h) hT (v := ?_) (.inl ⟨by rfl, ?_⟩) ?_
  rotate_left
  · intro w' hw'; have q := (cells_of_Z ((hw'.block (w.heap.size + 1) (by omega) (by simp)).trans g1)).2.2.2.1; go_simp; try with_reducible rfl
  refine G_take 20 27 rfl (by kernel_rfl) (fun _ _ _ h => h) hT (v := ?_) (.inl ⟨by rfl, ?_⟩) ?_
  rotate_left
  · intro w' hw'; go_simp; try with_reducible rfl
  refine G_take 21 27 rfl (by kernel_rfl) (fun _ _ _ h => h) hT (v := ?_) (.inl ⟨by rfl, ?_⟩) ?_
  rotate_left
  · intro w' hw'; have q := (cells_of_Z ((hw'.block (w.heap.size) (by omega) (by simp)).trans g0)).2.2.2.2; go_simp; try with_reducible rfl
  refine G_take 22 27 rfl (by kernel_rfl) (fun _ _ _ h => h) hT (v := ?_) (.inl ⟨by rfl, ?_⟩) ?_
  rotate_left
  · intro w' hw'; go_simp; try with_reducible rfl
  refine G_take 23 27 rfl (by kernel_rfl) (fun _ _ _ h => h) hT (v := ?_) (.inl ⟨by rfl, ?_⟩) ?_
  rotate_left
  · intro w' hw'; have q := (cells_of_Z ((hw'.block (w.heap.size + 1) (by omega) (by simp)).trans g1)).2.2.2.2; go_simp; try with_reducible rfl
  refine G_only 4 rfl (by kernel_rfl) ?_
  intro K hK
  go_simp
  refine (cmp_00 _).mono ?_
  rintro e w9 ⟨rfl, rfl⟩
  refine hK _ _ ⟨hT, ?_⟩
  clear hK K
  refine G_only 9 rfl (by kernel_rfl) ?_
  intro K hK
  go_simp
  refine (cmp_ee _).mono ?_
  rintro e w9 ⟨rfl, rfl⟩
  refine hK _ _ ⟨hT, ?_⟩
  clear hK K
  refine G_only 14 rfl (by kernel_rfl) ?_
  intro K hK
  go_simp
  refine (cmp_00 _).mono ?_
  rintro e w9 ⟨rfl, rfl⟩
  refine hK _ _ ⟨hT, ?_⟩
  clear hK K
  refine G_only 19 rfl (by kernel_rfl) ?_
  intro K hK
  go_simp
  refine (cmp_nil25 _).mono ?_
  rintro e w9 ⟨rfl, rfl⟩
  refine hK _ _ ⟨hT, ?_⟩
  clear hK K
  refine G_only 24 rfl (by kernel_rfl) ?_
  intro K hK
  go_simp
  refine (cmp_nil26 _ _).mono ?_
  rintro e w9 ⟨rfl, rfl⟩
  refine hK _ _ ⟨hT, ?_⟩
  clear hK K
  refine G_only 25 rfl (by kernel_rfl) ?_
  intro K hK
  go_simp
  have hT2 : W.grownBy (W.drew.alloc (.cells #[.int .i64 0, .int .i64 0, .int .i64 0, .int .i64 0, .int .i64 0] 3)) none := gb_trans hT (gb_alloc _ _)
  refine hK _ _ ⟨hT2, ?_⟩
  clear hK K
  refine G_only 26 rfl (by kernel_rfl) ?_
  intro K hK
  have hh : ((W.alloc (.cells #[.int .i64 0, .int .i64 0, .int .i64 0, .int .i64 0, .int .i64 0] 3)).drew).heap[W.heap.size]? = some _ := Go.heap_alloc_new W _
  go_simp
  refine (or_calls _ 0 0 0 0 0 _ (cell_of_row _ _ 0 _ _ _ hh) (cell_of_row _ _ 1 _ _ _ hh) (cell_of_row _ _ 2 _ _ _ hh) (cell_of_row _ _ 3 _ _ _ hh) (cell_of_row _ _ 4 _ _ _ hh)).mono ?_
  rintro e w9 ⟨rfl, rfl⟩
  refine hK _ _ ⟨hT2, ?_⟩
  clear hK K
  refine G_last 27 rfl (by kernel_rfl) (by kernel_rfl) ?_
  intro K hK
  go_simp
  refine hK _ _ ?_
  clear hK K
  go_wp2
  go_ret
  exact ⟨rfl, hb.trans (((alloc_below W _).drew).mono (by omega))⟩

end Go.Proofs.Ytogdjjleclbgcaa
