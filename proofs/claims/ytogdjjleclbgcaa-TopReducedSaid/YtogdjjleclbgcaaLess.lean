/- tile.less and tile.from: functions 8 and 6. -/
import Derived.Test.YtogdjjleclbgcaaEnds
import Derived.Test.YtogdjjleclbgcaaRegs2
import Derived.Deep.QuietTactic
import Derived.BigQuiet
namespace Go.Proofs.Ytogdjjleclbgcaa
open Go.RowKit

theorem gb_drewN (w : World) (n : Nat) : w.grownBy (w.drewN n) none := ⟨rfl, rfl, rfl, Nat.le_refl _, fun _ _ _ => rfl⟩

/-- What is drawn from: some bytes, where they are read, and a number. -/
def Tile (w : World) (g : Nat) : Prop := ∃ (A : Option Addr) (n c : Nat) (i x : Int), w.heap[g]? = some (.cells #[.slice A n c, .int .i64 i, .int .u64 x] 50 (0, 0)) ∧ 0 ≤ i ∧ i ≤ 1000 ∧ n ≤ 400 ∧
  ∀ j : Nat, j < n → ∃ b o v, A = some ⟨b, o, none⟩ ∧ b < g ∧ w.cell? ⟨b, o + j, none⟩ = some (.int .u8 v)

/-- A number that was drawn. -/
def Drawn (w : World) (g : Nat) (n : Int) (e : Ending) (w' : World) : Prop := ∃ r : Int, e = .returned (.int .i64 r) ∧ 0 ≤ r ∧ (r < n ∨ r = 0) ∧ Tile w' g ∧ w.grownBy w' (some g)

theorem cells3 {w : World} {a t : Nat} {v0 v1 v2 : Value} {fr : Nat × Nat} (h : w.heap[a]? = some (.cells #[v0, v1, v2] t fr)) : w.cell? ⟨a, 0, none⟩ = some v0 ∧ w.cell? ⟨a, 1, none⟩ = some v1 ∧ w.cell? ⟨a, 2, none⟩ = some v2 := by
  have e : ∀ j, w.cell? ⟨a, j, none⟩ = #[v0, v1, v2][j]? := fun j => cell_of_row w a j _ t fr h
  exact ⟨e 0, e 1, e 2⟩

theorem draw_val (y n : Int) (hn : 2 ≤ n) (hy : 0 ≤ y) (hy2 : y < 18446744073709551616) : 0 ≤ (wrap64 (y / 8589934592)).tmod n ∧ (wrap64 (y / 8589934592)).tmod n < n := by
  have h1 : 0 ≤ y / 8589934592 := Int.ediv_nonneg hy (by decide)
  have h2 : y / 8589934592 < 2147483648 := Int.ediv_lt_of_lt_mul (by decide) (by omega)
  have h3 : wrap64 (y / 8589934592) = y / 8589934592 := by unfold wrap64; omega
  rw [h3]
  exact ⟨Int.tmod_nonneg _ h1, Int.tmod_lt_of_pos _ (by omega)⟩
theorem u64_range (y : Int) : 0 ≤ IntKind.u64.wrap y ∧ IntKind.u64.wrap y < 18446744073709551616 := by
  have h : IntKind.u64.wrap y = y % 18446744073709551616 := by simp [IntKind.wrap, IntKind.bits, IntKind.signed]
  rw [h]; omega

set_option maxRecDepth 100000 in
set_option maxHeartbeats 800000 in
theorem less_over (w : World) (g : Nat) (n : Int) (A : Option Addr) (l c : Nat) (i x : Int) (hg : w.heap[g]? = some (.cells #[.slice A l c, .int .i64 i, .int .u64 x] 50 (0, 0))) (hlt : ¬ i < l) (h0 : 0 ≤ i) (hi : i ≤ 1000) (hl : l ≤ 400) (h2 : (2 : Int) ≤ n) (hn : n < 1000000) :
    Calls Try.prog 8 #[.pointer (some ⟨g, 0, none⟩), .int .i64 n] w (fun e w' => ∃ r x' : Int, e = .returned (.int .i64 r) ∧ 0 ≤ r ∧ r < n ∧ w'.heap[g]? = some (.cells #[.slice A l c, .int .i64 i, .int .u64 x'] 50 (0, 0)) ∧ w.grownBy w' (some g)) := by
  obtain ⟨c0, c1, c2⟩ := cells3 hg
  have cz := free_of_block hg
  have HG := Lib.hid hg
  clear hg
  go_enter Try.func8, Try.ntmps8
  go_wp2
  go_quiet (fail)
  go_wp2
  go_ret
  refine ⟨_, _, rfl, (draw_val _ n h2 (u64_range _).1 (u64_range _).2).1, (draw_val _ n h2 (u64_range _).1 (u64_range _).2).2, (Go.heap_setCell_same _ g 2 _ 50 _ HG.out), tr_row (gb_some (gb_drewN w _)) (gb_set _ g 2 _)⟩

set_option maxRecDepth 100000 in
set_option maxHeartbeats 800000 in
theorem less_in (w : World) (g : Nat) (n : Int) (b o : Nat) (v : Int) (l c : Nat) (i : Nat) (x : Int) (hg : w.heap[g]? = some (.cells #[.slice (some ⟨b, o, none⟩) l c, .int .i64 i, .int .u64 x] 50 (0, 0))) (hlt : (i : Int) < l) (hi : i ≤ 1000)
    (hb : w.cell? ⟨b, o + i, none⟩ = some (.int .u8 v)) (h2 : (2 : Int) ≤ n) (hn : n < 1000000) :
    Calls Try.prog 8 #[.pointer (some ⟨g, 0, none⟩), .int .i64 n] w (fun e w' => ∃ r x' : Int, e = .returned (.int .i64 r) ∧ 0 ≤ r ∧ r < n ∧ w'.heap[g]? = some (.cells #[.slice (some ⟨b, o, none⟩) l c, .int .i64 (i + 1), .int .u64 x'] 50 (0, 0)) ∧ w.grownBy w' (some g)) := by
  obtain ⟨c0, c1, c2⟩ := cells3 hg
  have cz := free_of_block hg
  have HG := Lib.hid hg
  have HB := Lib.hid hb
  have hgl : g < w.heap.size := (Array.getElem?_eq_some_iff.1 hg).1
  have hbl : b < w.heap.size := World.block_lt_of_cell? w _ hb
  clear hg
  go_enter Try.func8, Try.ntmps8
  go_wp2
  go_quiet (fail)
  go_wp2
  obtain ⟨W, hW⟩ : ∃ W, W = w.drewN nq := ⟨_, rfl⟩
  have HG' : Hid (W.heap[g]? = some (.cells #[.slice (some ⟨b, o, none⟩) l c, .int .i64 i, .int .u64 x] 50 (0, 0))) := by rw [hW]; exact HG.out
  have HB' : Hid (W.cell? ⟨b, o + i, none⟩ = some (.int .u8 v)) := by rw [hW]; exact HB.out
  have HW : Hid (w.grownBy W none) := by rw [hW]; exact gb_drewN w nq
  have hgl' : g < W.heap.size := by rw [hW]; exact hgl
  have hbl' : b < W.heap.size := by rw [hW]; exact hbl
  rw [← hW]
  clear hW c0 c1 c2 cz HG HB hb hgl hbl
  have hS : W.grownBy W.drew none := gb_drew W
  refine G_begin (fun w' => W.grownBy w' none) (by kernel_rfl) ?_
  refine G_take 0 18 rfl (by kernel_rfl) (fun _ _ _ h => h) hS (v := ?_) (.inl ⟨by rfl, ?_⟩) ?_
  rotate_left
  · intro w' hw'; go_simp; try with_reducible rfl
  refine G_take 1 18 rfl (by kernel_rfl) (fun _ _ _ h => h) hS (v := ?_) (.inl ⟨by rfl, ?_⟩) ?_
  rotate_left
  · intro w' hw'; go_simp; try with_reducible rfl
  refine G_take 2 18 rfl (by kernel_rfl) (fun _ _ _ h => h) hS (v := ?_) (.inl ⟨by rfl, ?_⟩) ?_
  rotate_left
  · intro w' hw'; go_simp; try with_reducible rfl
  refine G_take 3 18 rfl (by kernel_rfl) (fun _ _ _ h => h) hS (v := ?_) (.inl ⟨by rfl, ?_⟩) ?_
  rotate_left
  · intro w' hw'; obtain ⟨d0, d1, d2⟩ := cells3 ((hw'.block g hgl' (by simp)).trans HG'.out); go_simp; try with_reducible rfl
  refine G_take 4 18 rfl (by kernel_rfl) (fun _ _ _ h => h) hS (v := ?_) (.inl ⟨by rfl, ?_⟩) ?_
  rotate_left
  · intro w' hw'; go_simp; try with_reducible rfl
  refine G_take 5 18 rfl (by kernel_rfl) (fun _ _ _ h => h) hS (v := ?_) (.inl ⟨by rfl, ?_⟩) ?_
  rotate_left
  · intro w' hw'; go_simp; try with_reducible rfl
  refine G_take 6 18 rfl (by kernel_rfl) (fun _ _ _ h => h) hS (v := ?_) (.inl ⟨by rfl, ?_⟩) ?_
  rotate_left
  · intro w' hw'; go_simp; try with_reducible rfl
  refine G_take 7 18 rfl (by kernel_rfl) (fun _ _ _ h => h) hS (v := ?_) (.inl ⟨by rfl, ?_⟩) ?_
  rotate_left
  · intro w' hw'; obtain ⟨d0, d1, d2⟩ := cells3 ((hw'.block g hgl' (by simp)).trans HG'.out); go_simp; try with_reducible rfl
  refine G_take 8 18 rfl (by kernel_rfl) (fun _ _ _ h => h) hS (v := ?_) (.inl ⟨by rfl, ?_⟩) ?_
  rotate_left
  · intro w' hw'; go_simp; try with_reducible rfl
  refine G_take 9 18 rfl (by kernel_rfl) (fun _ _ _ h => h) hS (v := ?_) (.inl ⟨by rfl, ?_⟩) ?_
  rotate_left
  · intro w' hw'; go_simp; try with_reducible rfl
  refine G_take 10 18 rfl (by kernel_rfl) (fun _ _ _ h => h) hS (v := ?_) (.inl ⟨by rfl, ?_⟩) ?_
  rotate_left
  · intro w' hw'; go_simp; try with_reducible rfl
  refine G_take 11 18 rfl (by kernel_rfl) (fun _ _ _ h => h) hS (v := ?_) (.inl ⟨by rfl, ?_⟩) ?_
  rotate_left
  · intro w' hw'; obtain ⟨d0, d1, d2⟩ := cells3 ((hw'.block g hgl' (by simp)).trans HG'.out); go_simp; try with_reducible rfl
  refine G_take 12 18 rfl (by kernel_rfl) (fun _ _ _ h => h) hS (v := ?_) (.inl ⟨by rfl, ?_⟩) ?_
  rotate_left
  · intro w' hw'; go_simp; try with_reducible rfl
  refine G_take 13 18 rfl (by kernel_rfl) (fun _ _ _ h => h) hS (v := ?_) (.inl ⟨by rfl, ?_⟩) ?_
  rotate_left
  · intro w' hw'; have d0 := (hw'.cell_far ⟨b, o + i, none⟩ hbl' (by simp)).trans HB'.out; go_simp; try with_reducible rfl
  refine G_take 14 18 rfl (by kernel_rfl) (fun _ _ _ h => h) hS (v := ?_) (.inl ⟨by rfl, ?_⟩) ?_
  rotate_left
  · intro w' hw'; go_simp; try with_reducible rfl
  refine G_take 15 18 rfl (by kernel_rfl) (fun _ _ _ h => h) hS (v := ?_) (.inl ⟨by rfl, ?_⟩) ?_
  rotate_left
  · intro w' hw'; go_simp; try with_reducible rfl
  refine G_take 16 17 rfl (by kernel_rfl) (fun _ _ _ h => h) hS (v := ?_) (.inl ⟨by rfl, ?_⟩) ?_
  rotate_left
  · intro w' hw'; go_simp; try with_reducible rfl
  refine G_take 17 18 rfl (by kernel_rfl) (fun _ _ _ h => h) hS (v := ?_) (.inl ⟨by rfl, ?_⟩) ?_
  rotate_left
  · intro w' hw'; go_simp; try with_reducible rfl
  refine G_last 18 rfl (by kernel_rfl) (by kernel_rfl) ?_
  intro K hK
  have c0 := (cells3 HG'.out).1
  have c1 := (cells3 HG'.out).2.1
  have c2 := (cells3 HG'.out).2.2
  have cz := free_of_block HG'.out
  go_simp
  refine hK _ _ ?_
  clear hK K
  go_wp2
  have e1 := Go.heap_setCell_same W g 2 _ 50 (.int .u64 (IntKind.u64.wrap (x + IntKind.u64.wrap v))) HG'.out
  have e2 := Go.heap_setCell_same _ g 1 _ 50 (.int .i64 (i + 1)) e1
  have e3 := Go.heap_setCell_same _ g 2 _ 50 (.int .u64 (IntKind.u64.wrap (IntKind.u64.wrap (IntKind.u64.wrap (x + IntKind.u64.wrap v) * 6364136223846793005) + 1442695040888963407))) e2
  simp only [List.setIfInBounds_toArray, List.set_cons_zero, List.set_cons_succ] at e3
  go_ret
  refine ⟨_, _, rfl, (draw_val _ n h2 (u64_range _).1 (u64_range _).2).1, (draw_val _ n h2 (u64_range _).1 (u64_range _).2).2, e3, tr_row (gb_some HW.out) (tr_row (tr_row (tr_row (gb_set W g 2 _) (gb_set _ g 1 _)) (gb_set _ g 2 _)) (gb_some (gb_drew _)))⟩

set_option maxRecDepth 100000 in
set_option maxHeartbeats 800000 in
theorem less_over0 (w : World) (g : Nat) (n : Int) (A : Option Addr) (l c : Nat) (i x : Int) (hg : w.heap[g]? = some (.cells #[.slice A l c, .int .i64 i, .int .u64 x] 50 (0, 0))) (hlt : ¬ i < l) (h0 : 0 ≤ i) (hi : i ≤ 1000) (hl : l ≤ 400) (h2 : n < 2) :
    Calls Try.prog 8 #[.pointer (some ⟨g, 0, none⟩), .int .i64 n] w (fun e w' => ∃ r x' : Int, e = .returned (.int .i64 r) ∧ r = 0 ∧ w'.heap[g]? = some (.cells #[.slice A l c, .int .i64 i, .int .u64 x'] 50 (0, 0)) ∧ w.grownBy w' (some g)) := by
  obtain ⟨c0, c1, c2⟩ := cells3 hg
  have cz := free_of_block hg
  have HG := Lib.hid hg
  clear hg
  go_enter Try.func8, Try.ntmps8
  go_wp2
  go_quiet (fail)
  go_wp2
  go_ret
  refine ⟨_, _, rfl, rfl, (Go.heap_setCell_same _ g 2 _ 50 _ HG.out), tr_row (gb_some (gb_drewN w _)) (gb_set _ g 2 _)⟩

set_option maxRecDepth 100000 in
set_option maxHeartbeats 800000 in
theorem less_in0 (w : World) (g : Nat) (n : Int) (b o : Nat) (v : Int) (l c : Nat) (i : Nat) (x : Int) (hg : w.heap[g]? = some (.cells #[.slice (some ⟨b, o, none⟩) l c, .int .i64 i, .int .u64 x] 50 (0, 0))) (hlt : (i : Int) < l) (hi : i ≤ 1000)
    (hb : w.cell? ⟨b, o + i, none⟩ = some (.int .u8 v)) (h2 : n < 2) :
    Calls Try.prog 8 #[.pointer (some ⟨g, 0, none⟩), .int .i64 n] w (fun e w' => ∃ r x' : Int, e = .returned (.int .i64 r) ∧ r = 0 ∧ w'.heap[g]? = some (.cells #[.slice (some ⟨b, o, none⟩) l c, .int .i64 (i + 1), .int .u64 x'] 50 (0, 0)) ∧ w.grownBy w' (some g)) := by
  obtain ⟨c0, c1, c2⟩ := cells3 hg
  have cz := free_of_block hg
  have HG := Lib.hid hg
  have HB := Lib.hid hb
  have hgl : g < w.heap.size := (Array.getElem?_eq_some_iff.1 hg).1
  have hbl : b < w.heap.size := World.block_lt_of_cell? w _ hb
  clear hg
  go_enter Try.func8, Try.ntmps8
  go_wp2
  go_quiet (fail)
  go_wp2
  obtain ⟨W, hW⟩ : ∃ W, W = w.drewN nq := ⟨_, rfl⟩
  have HG' : Hid (W.heap[g]? = some (.cells #[.slice (some ⟨b, o, none⟩) l c, .int .i64 i, .int .u64 x] 50 (0, 0))) := by rw [hW]; exact HG.out
  have HB' : Hid (W.cell? ⟨b, o + i, none⟩ = some (.int .u8 v)) := by rw [hW]; exact HB.out
  have HW : Hid (w.grownBy W none) := by rw [hW]; exact gb_drewN w nq
  have hgl' : g < W.heap.size := by rw [hW]; exact hgl
  have hbl' : b < W.heap.size := by rw [hW]; exact hbl
  rw [← hW]
  clear hW c0 c1 c2 cz HG HB hb hgl hbl
  have hS : W.grownBy W.drew none := gb_drew W
  refine G_begin (fun w' => W.grownBy w' none) (by kernel_rfl) ?_
  refine G_take 0 18 rfl (by kernel_rfl) (fun _ _ _ h => h) hS (v := ?_) (.inl ⟨by rfl, ?_⟩) ?_
  rotate_left
  · intro w' hw'; go_simp; try with_reducible rfl
  refine G_take 1 18 rfl (by kernel_rfl) (fun _ _ _ h => h) hS (v := ?_) (.inl ⟨by rfl, ?_⟩) ?_
  rotate_left
  · intro w' hw'; go_simp; try with_reducible rfl
  refine G_take 2 18 rfl (by kernel_rfl) (fun _ _ _ h => h) hS (v := ?_) (.inl ⟨by rfl, ?_⟩) ?_
  rotate_left
  · intro w' hw'; go_simp; try with_reducible rfl
  refine G_take 3 18 rfl (by kernel_rfl) (fun _ _ _ h => h) hS (v := ?_) (.inl ⟨by rfl, ?_⟩) ?_
  rotate_left
  · intro w' hw'; obtain ⟨d0, d1, d2⟩ := cells3 ((hw'.block g hgl' (by simp)).trans HG'.out); go_simp; try with_reducible rfl
  refine G_take 4 18 rfl (by kernel_rfl) (fun _ _ _ h => h) hS (v := ?_) (.inl ⟨by rfl, ?_⟩) ?_
  rotate_left
  · intro w' hw'; go_simp; try with_reducible rfl
  refine G_take 5 18 rfl (by kernel_rfl) (fun _ _ _ h => h) hS (v := ?_) (.inl ⟨by rfl, ?_⟩) ?_
  rotate_left
  · intro w' hw'; go_simp; try with_reducible rfl
  refine G_take 6 18 rfl (by kernel_rfl) (fun _ _ _ h => h) hS (v := ?_) (.inl ⟨by rfl, ?_⟩) ?_
  rotate_left
  · intro w' hw'; go_simp; try with_reducible rfl
  refine G_take 7 18 rfl (by kernel_rfl) (fun _ _ _ h => h) hS (v := ?_) (.inl ⟨by rfl, ?_⟩) ?_
  rotate_left
  · intro w' hw'; obtain ⟨d0, d1, d2⟩ := cells3 ((hw'.block g hgl' (by simp)).trans HG'.out); go_simp; try with_reducible rfl
  refine G_take 8 18 rfl (by kernel_rfl) (fun _ _ _ h => h) hS (v := ?_) (.inl ⟨by rfl, ?_⟩) ?_
  rotate_left
  · intro w' hw'; go_simp; try with_reducible rfl
  refine G_take 9 18 rfl (by kernel_rfl) (fun _ _ _ h => h) hS (v := ?_) (.inl ⟨by rfl, ?_⟩) ?_
  rotate_left
  · intro w' hw'; go_simp; try with_reducible rfl
  refine G_take 10 18 rfl (by kernel_rfl) (fun _ _ _ h => h) hS (v := ?_) (.inl ⟨by rfl, ?_⟩) ?_
  rotate_left
  · intro w' hw'; go_simp; try with_reducible rfl
  refine G_take 11 18 rfl (by kernel_rfl) (fun _ _ _ h => h) hS (v := ?_) (.inl ⟨by rfl, ?_⟩) ?_
  rotate_left
  · intro w' hw'; obtain ⟨d0, d1, d2⟩ := cells3 ((hw'.block g hgl' (by simp)).trans HG'.out); go_simp; try with_reducible rfl
  refine G_take 12 18 rfl (by kernel_rfl) (fun _ _ _ h => h) hS (v := ?_) (.inl ⟨by rfl, ?_⟩) ?_
  rotate_left
  · intro w' hw'; go_simp; try with_reducible rfl
  refine G_take 13 18 rfl (by kernel_rfl) (fun _ _ _ h => h) hS (v := ?_) (.inl ⟨by rfl, ?_⟩) ?_
  rotate_left
  · intro w' hw'; have d0 := (hw'.cell_far ⟨b, o + i, none⟩ hbl' (by simp)).trans HB'.out; go_simp; try with_reducible rfl
  refine G_take 14 18 rfl (by kernel_rfl) (fun _ _ _ h => h) hS (v := ?_) (.inl ⟨by rfl, ?_⟩) ?_
  rotate_left
  · intro w' hw'; go_simp; try with_reducible rfl
  refine G_take 15 18 rfl (by kernel_rfl) (fun _ _ _ h => h) hS (v := ?_) (.inl ⟨by rfl, ?_⟩) ?_
  rotate_left
  · intro w' hw'; go_simp; try with_reducible rfl
  refine G_take 16 17 rfl (by kernel_rfl) (fun _ _ _ h => h) hS (v := ?_) (.inl ⟨by rfl, ?_⟩) ?_
  rotate_left
  · intro w' hw'; go_simp; try with_reducible rfl
  refine G_take 17 18 rfl (by kernel_rfl) (fun _ _ _ h => h) hS (v := ?_) (.inl ⟨by rfl, ?_⟩) ?_
  rotate_left
  · intro w' hw'; go_simp; try with_reducible rfl
  refine G_last 18 rfl (by kernel_rfl) (by kernel_rfl) ?_
  intro K hK
  have c0 := (cells3 HG'.out).1
  have c1 := (cells3 HG'.out).2.1
  have c2 := (cells3 HG'.out).2.2
  have cz := free_of_block HG'.out
  go_simp
  refine hK _ _ ?_
  clear hK K
  go_wp2
  have e1 := Go.heap_setCell_same W g 2 _ 50 (.int .u64 (IntKind.u64.wrap (x + IntKind.u64.wrap v))) HG'.out
  have e2 := Go.heap_setCell_same _ g 1 _ 50 (.int .i64 (i + 1)) e1
  have e3 := Go.heap_setCell_same _ g 2 _ 50 (.int .u64 (IntKind.u64.wrap (IntKind.u64.wrap (IntKind.u64.wrap (x + IntKind.u64.wrap v) * 6364136223846793005) + 1442695040888963407))) e2
  simp only [List.setIfInBounds_toArray, List.set_cons_zero, List.set_cons_succ] at e3
  go_ret
  refine ⟨_, _, rfl, rfl, e3, tr_row (gb_some HW.out) (tr_row (tr_row (tr_row (gb_set W g 2 _) (gb_set _ g 1 _)) (gb_set _ g 2 _)) (gb_some (gb_drew _)))⟩

theorem Tile.keep {w w' : World} {g : Nat} {A : Option Addr} {n c : Nat} {i x : Int} (h : w.grownBy w' (some g)) (hg : w'.heap[g]? = some (.cells #[.slice A n c, .int .i64 i, .int .u64 x] 50 (0, 0))) (h0 : 0 ≤ i) (h1 : i ≤ 1000) (hn : n ≤ 400)
    (hb : ∀ j : Nat, j < n → ∃ b o v, A = some ⟨b, o, none⟩ ∧ b < g ∧ w.cell? ⟨b, o + j, none⟩ = some (.int .u8 v)) : Tile w' g := by
  refine ⟨A, n, c, i, x, hg, h0, h1, hn, fun j hj => ?_⟩
  obtain ⟨b, o, v, ha, hne, hc⟩ := hb j hj
  exact ⟨b, o, v, ha, hne, (h.cell_far ⟨b, o + j, none⟩ (World.block_lt_of_cell? w _ hc) (by simp; omega)).trans hc⟩

theorem less_calls (w : World) (g : Nat) (n : Int) (ht : Tile w g) (hn : n < 1000000) : Calls Try.prog 8 #[.pointer (some ⟨g, 0, none⟩), .int .i64 n] w (Drawn w g n) := by
  obtain ⟨A, l, c, i, x, hg, h0, hi, hl, hb⟩ := ht
  obtain ⟨i, rfl⟩ := Int.eq_ofNat_of_zero_le h0
  by_cases hlt : (i : Int) < l
  · obtain ⟨b, o, v, rfl, hne, hc⟩ := hb i (by omega)
    by_cases h2 : (2 : Int) ≤ n
    · exact (less_in w g n b o v l c i x hg hlt (by omega) hc h2 hn).mono fun e w' ⟨r, x', he, h1, h3, hg', hgb⟩ => ⟨r, he, h1, .inl h3, Tile.keep hgb hg' (by omega) (by omega) hl hb, hgb⟩
    · exact (less_in0 w g n b o v l c i x hg hlt (by omega) hc (by omega)).mono fun e w' ⟨r, x', he, h1, hg', hgb⟩ => ⟨r, he, by omega, .inr h1, Tile.keep hgb hg' (by omega) (by omega) hl hb, hgb⟩
  · by_cases h2 : (2 : Int) ≤ n
    · exact (less_over w g n A l c i x hg hlt (by omega) hi hl h2 hn).mono fun e w' ⟨r, x', he, h1, h3, hg', hgb⟩ => ⟨r, he, h1, .inl h3, Tile.keep hgb hg' (by omega) hi hl hb, hgb⟩
    · exact (less_over0 w g n A l c i x hg hlt (by omega) hi hl (by omega)).mono fun e w' ⟨r, x', he, h1, hg', hgb⟩ => ⟨r, he, by omega, .inr h1, Tile.keep hgb hg' (by omega) hi hl hb, hgb⟩

set_option maxRecDepth 100000 in
set_option maxHeartbeats 800000 in
theorem from_calls (w : World) (g : Nat) (a b : Int) (ht : Tile w g) (ha : 0 ≤ a) (ha1 : a ≤ b) (hb : b < 1000) : Calls Try.prog 6 #[.pointer (some ⟨g, 0, none⟩), .int .i64 a, .int .i64 b] w (fun e w' => ∃ r : Int, e = .returned (.int .i64 r) ∧ a ≤ r ∧ r ≤ b ∧ Tile w' g ∧ w.grownBy w' (some g)) := by
  have HT := Lib.hid ht
  clear ht
  go_enter Try.func6, Try.ntmps6
  go_wp2_with (go_at_call 8; refine (less_calls _ g _ HT.out (by omega)).mono ?_; rintro e w1 ⟨r, rfl, h1, h2, h3, h4⟩; have HQ := Lib.hid (And.intro h3 h4); clear h3 h4; have h5 : r < 1000 := by omega)
  go_ret
  exact ⟨_, rfl, by omega, by omega, HQ.out.1, HQ.out.2⟩

end Go.Proofs.Ytogdjjleclbgcaa
