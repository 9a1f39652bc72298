/- The type of a term here: none. -/
import Derived.Test.YtogdjjleclbgcaaEnds
import Derived.RangeFuncFrom
import Derived.RangeFuncNested
import Derived.RangeFuncBound
import Derived.RangeFuncCalls
import Derived.RangeFuncLeaves
import Derived.Shelf.Abstract
import Derived.Shelf.RegionOpen
import Derived.OwnWalkIn
import Derived.TacticsInMore
import Derived.LoopNIn
import Derived.LoopIn
import Derived.WalkSpells
namespace Go.Proofs.Ytogdjjleclbgcaa
open Go.RowKit Go.Shelf
attribute [local go_sem] Oper.semAt_some

abbrev Z : Value := .agg #[.int .i64 0, .string ⟨#[]⟩, .int .i64 0, .slice none 0 0, .slice none 0 0]
abbrev Zobj : Obj := .cells #[.int .i64 0, .string ⟨#[]⟩, .int .i64 0, .slice none 0 0, .slice none 0 0] 28 (0, 0)
theorem under25 : Try.prog.underlying 25 = some (.slice 9) := by kernel_rfl
theorem under26 : Try.prog.underlying 26 = some (.slice 28) := by kernel_rfl
theorem size28 : (Try.prog.info? 28).map (·.size) = some 5 := by kernel_rfl

/-- The end of a function that hands back a type. -/
theorem end_type {fn : Func} {R : Ending → World → Prop} {p : Nat} {a : Act} {w : World} {r : Nat} (hres : fn.results = #[.cell p 28])
    (hp : a.tmps.getD p undef = .pointer (some ⟨r, 0, none⟩)) (hd : a.defers = []) (h : w.heap[r]? = some Zobj) (hR : R (.returned Z) w) : bodyPost Try.prog fn R .ret a w :=
  ⟨hd, _, results_cell_row hres a.tmps w r 28 _ _ _ hp h Try.underlying28 rfl size28, hR⟩

theorem fiveZ {w : World} {r : Nat} (h : w.heap[r]? = some Zobj) :
    ∃ V, (((((w.setCell ⟨r, 0, none⟩ (.int .i64 0)).setCell ⟨r, 1, none⟩ (.string ⟨#[]⟩)).setCell ⟨r, 2, none⟩ (.int .i64 0)).setCell ⟨r, 3, none⟩ (.slice none 0 0)).setCell ⟨r, 4, none⟩ (.slice none 0 0)) = V ∧ V.heap[r]? = some Zobj ∧ w.grownBy V (some r) ∧ V.heap.size = w.heap.size := by
  have h0 := Go.heap_setCell_same w r 0 _ 28 (.int .i64 0) h
  have h1 := Go.heap_setCell_same _ r 1 _ 28 (.string ⟨#[]⟩) h0
  have h2 := Go.heap_setCell_same _ r 2 _ 28 (.int .i64 0) h1
  have h3 := Go.heap_setCell_same _ r 3 _ 28 (.slice none 0 0) h2
  have h4 := Go.heap_setCell_same _ r 4 _ 28 (.slice none 0 0) h3
  refine ⟨_, rfl, by simpa using h4, ?_, by simp [World.setCell]⟩
  exact tr_row (tr_row (tr_row (tr_row (gb_set w r 0 _) (gb_set _ r 1 _)) (gb_set _ r 2 _)) (gb_set _ r 3 _)) (gb_set _ r 4 _)
theorem cells_of_Z {w : World} {a : Nat} (h : w.heap[a]? = some Zobj) : w.cell? ⟨a, 0, none⟩ = some (.int .i64 0) ∧ w.cell? ⟨a, 1, none⟩ = some (.string ⟨#[]⟩) ∧ w.cell? ⟨a, 2, none⟩ = some (.int .i64 0) ∧ w.cell? ⟨a, 3, none⟩ = some (.slice none 0 0) ∧ w.cell? ⟨a, 4, none⟩ = some (.slice none 0 0) := by
  have e : ∀ j, w.cell? ⟨a, j, none⟩ = #[.int .i64 0, .string ⟨#[]⟩, .int .i64 0, .slice none 0 0, .slice none 0 0][j]? := fun j => cell_of_row w a j _ 28 (0, 0) h
  exact ⟨e 0, e 1, e 2, e 3, e 4⟩

set_option maxRecDepth 100000 in
set_option maxHeartbeats 800000 in
theorem clone25 (w : World) : Calls Try.prog 53 #[.slice none 0 0] w (fun e w' => e = .returned (.slice none 0 0) ∧ w' = w) := by
  have hne := fun (w : World) (A : Option Addr) (n c : Nat) => Lib.run_eql_slice_nil (P := Try.prog) w 25 9 A n c 0 0 under25
  go_enter Try.func53, Try.ntmps53
  go_wp2
  go_ret
  exact ⟨rfl, rfl⟩
set_option maxRecDepth 100000 in
set_option maxHeartbeats 800000 in
theorem clone26 (w : World) : Calls Try.prog 54 #[.slice none 0 0] w (fun e w' => e = .returned (.slice none 0 0) ∧ w' = w) := by
  have hne := fun (w : World) (A : Option Addr) (n c : Nat) => Lib.run_eql_slice_nil (P := Try.prog) w 26 28 A n c 0 0 under26
  go_enter Try.func54, Try.ntmps54
  go_wp2
  go_ret
  exact ⟨rfl, rfl⟩

set_option maxRecDepth 100000 in
set_option maxHeartbeats 800000 in
theorem mapped_z (w : World) (fv : Value) : Calls Try.prog 48 #[Z, fv] w (fun e w' => e = .returned Z ∧ Below w.heap.size w w') := by
  go_enter Try.func48, Try.ntmps48
  go_wp2_with (first | (go_at_call 53; refine (clone25 _).mono ?_; rintro e w1 ⟨rfl, rfl⟩) | (go_at_call 54; refine (clone26 _).mono ?_; rintro e w1 ⟨rfl, rfl⟩))
  refine wp_loop_rounds 1 ?_
  rw [rounds_succ]
  go_wp2
  exact end_type rfl (by rfl) rfl (heap2 w _ _) ⟨rfl, below2 w _ _⟩

set_option maxRecDepth 100000 in
set_option maxHeartbeats 800000 in
theorem back_in (w : World) : Calls Try.prog 47 #[.slice none 0 0] w (fun e w' => e = .returned (.func (.func 52) #[] #[.pointer (some ⟨w.heap.size, 0, none⟩)]) ∧ w' = w.alloc (.cells #[.slice none 0 0] 85)) := by
  have hmf : ∀ (fn : Fn) (first cap : Array Value) (w : World), (Instr.makeFunc fn first cap).run Try.prog w = .ok (.func fn first cap) w := fun _ _ _ _ => rfl
  go_enter Try.func47, Try.ntmps47
  go_wp2
  go_ret
  exact ⟨rfl, rfl⟩

set_option maxRecDepth 100000 in
set_option maxHeartbeats 800000 in
/-- The iterator over no bindings at all. -/
theorem back_stops (F : Fence) (n : Nat) (h : F.fn 52) (hro : F.round = none) (B : Nat) (w : World) (hb : w.cell? ⟨B, 0, none⟩ = some (.slice none 0 0)) (Kp : World → World → Prop) :
    SeqStopsK F n Try.prog 52 #[.pointer (some ⟨B, 0, none⟩)] (fun (_ : Empty) => #[]) Kp (fun xs => xs = []) (fun _ => False) 0 w := by
  intro l J Jx W hW hJ hJx hY h0
  have hc := (hW.cell (p := ⟨B, 0, none⟩) (World.block_lt_of_cell? w _ hb)).trans hb
  refine callsIn_of_wp Try.func52 rfl h ?_ hro
  simp only [Try.ntmps52, List.size_toArray, List.length_cons, List.length_nil, Nat.reduceAdd, Nat.reduceSub, Array.replicate_succ, Array.replicate_zero, List.push_toArray, List.append_toArray, List.nil_append, List.cons_append]
  gi_wp2
  refine wpIn_loop_rounds 1 ?_
  rw [roundsIn_succ]
  gi_wp2
  go_end0
  exact ⟨⟨_, rfl⟩, .inl ⟨[], rfl, h0⟩⟩

set_option maxRecDepth 100000 in
set_option maxHeartbeats 800000 in
theorem apply_in (w : World) : CallsIn Fence.wide 3 Try.prog 46 #[.slice none 0 0, Z] w (fun e w' => e = .returned Z ∧ Below w.heap.size w w') := by
  have hmf : ∀ (fn : Fn) (first cap : Array Value) (w : World), (Instr.makeFunc fn first cap).run Try.prog w = .ok (.func fn first cap) w := fun _ _ _ _ => rfl
  have hmm := @run_makeMap Try.prog
  have h1 : 1 ≤ 3 := by omega
  refine callsIn_of_wp_marks Try.func46 rfl trivial ?_ rfl
  simp only [Try.ntmps46, List.size_toArray, List.length_cons, List.length_nil, Nat.reduceAdd, Nat.reduceSub, Array.replicate_succ, Array.replicate_zero, List.push_toArray, List.append_toArray, List.nil_append, List.cons_append]
  gi_wp2_with (refine ⟨trivial, ?_⟩; gi_at_call 47; refine (callsIn_wide.2 (back_in _)).mono ?_; rintro e w1 ⟨rfl, rfl⟩)
  generalize hX : World.alloc (World.alloc (World.alloc (World.alloc (World.alloc w _) _) _) _) _ = X
  have hB0 : Below w.heap.size w X := by rw [← hX]; exact below5 w _ _ _ _ _
  have hz : w.heap.size + 5 = X.heap.size := by rw [← hX]; simp
  have z0 : X.heap[w.heap.size]? = some Zobj := by
    rw [← hX]; (repeat rw [Below.heap_alloc _ _ _ (by first | (simp; done) | (simp; omega))]); exact Go.heap_alloc_new w _
  have z1 : X.heap[w.heap.size + 1]? = some Zobj := by
    rw [← hX]; (repeat rw [Below.heap_alloc _ _ _ (by first | (simp; done) | (simp; omega))]); exact new_at _ _ _ (by simp)
  have z4 : X.cell? ⟨w.heap.size + 1 + 1 + 1 + 1, 0, none⟩ = some (.slice none 0 0) := by
    rw [← hX]; exact cell_of_row _ _ 0 _ _ _ (new_at _ _ _ (by simp))
  clear hX
  refine wpIn_rangeFunc_ownF (α := Empty) rfl h1 (gf := 52) (lb := #[.pointer (some ⟨w.heap.size + 1 + 1 + 1 + 1, 0, none⟩)]) rfl trivial (enters_of Try.func52 (by kernel_rfl) rfl)
    (back_stops Fence.wide 2 trivial rfl _ X z4 (Below X.heap.size)) belowK_t (belowK_b (by simp)) (Below.refl _ _) (fun x => x.elim)
    (fun _ W => Below X.heap.size X W) (fun _ _ _ => False) (ownFrom_below (Nat.le_refl _) (Nat.le_refl _)) (fun _ _ _ _ _ hs _ _ => hs) (Below.refl _ _) (fun x => x.elim) (fun _ x => x.elim) (fun _ _ x => x.elim) ?done ?stop
  case stop =>
    rintro D c pre W _ h _ _
    exact h.elim
  case done =>
    rintro D ys W hD rfl hB hK
    have y0 := (hB.block w.heap.size (by omega)).trans z0
    have y1 := (hB.block (w.heap.size + 1) (by omega)).trans z1
    have e0 := (cells_of_Z y0).1
    have e1 := (cells_of_Z y0).2.1
    have e2 := (cells_of_Z y0).2.2.1
    have e3 := (cells_of_Z y0).2.2.2.1
    have e4 := (cells_of_Z y0).2.2.2.2
    have hDl : D < W.heap.size := (Array.getElem?_eq_some_iff.1 hK).1
    gi_wp2_with (refine ⟨trivial, ?_⟩; gi_at_call 48; refine (callsIn_wide.2 (mapped_z _ _)).mono ?_; rintro e w2 ⟨rfl, hb2⟩; have p1 := (hb2.block (w.heap.size + 1) (by have := hB.size; omega)).trans y1; have fz := free_of_block p1; have f0 := (cells_of_Z p1).1; have f1 := (cells_of_Z p1).2.1; have f2 := (cells_of_Z p1).2.2.1; have f3 := (cells_of_Z p1).2.2.2.1; have f4 := (cells_of_Z p1).2.2.2.2; have hK2 := (hb2.block D hDl).trans hK)
    obtain ⟨V, hV, n1, n2, n3⟩ := fiveZ p1
    rw [hV]
    have hXW := hB.size
    have hWw := hb2.size
    have hKV : V.heap[D]? = some (.deferred (some [])) := (n2.block D (by omega) (by simp; omega)).trans hK2
    refine ⟨by simp, .inl ⟨_, _, rfl, run_takeDeferred hKV, ?_⟩⟩
    have q1 : (V.putObj D (.deferred none)).heap[w.heap.size + 1]? = some Zobj := (World.putObj_heap_other (by omega)).trans n1
    have hBV : Below w.heap.size w V := below_gb (hB0.trans ((hB.mono (by omega)).trans (hb2.mono (by omega)))) n2 (by omega) (by simp)
    exact ⟨Z, results_cell_row rfl _ _ _ 28 _ _ _ (by rfl) q1 Try.underlying28 rfl size28, rfl, hBV.trans (belowK_b (w := X) (by omega) V D _ _ hD hKV rfl rfl)⟩

theorem apply_z (w : World) : Calls Try.prog 46 #[.slice none 0 0, Z] w (fun e w' => e = .returned Z ∧ Below w.heap.size w w') := callsIn_wide.1 (apply_in w)

set_option maxRecDepth 100000 in
set_option maxHeartbeats 800000 in
/-- A type that is none is its own. -/
theorem own_z (w : World) : Calls Try.prog 39 #[Z] w (fun e w' => e = .returned Z ∧ Below w.heap.size w w') := by
  go_enter Try.func39, Try.ntmps39
  go_wp2_with (go_at_call 46; refine (apply_z _).mono ?_; rintro e w1 ⟨rfl, hb1⟩; have p1 := (hb1.block (w.heap.size + 1) (by simp)).trans (heap2 w _ _); have fz := free_of_block p1; have f0 := (cells_of_Z p1).1; have f1 := (cells_of_Z p1).2.1; have f2 := (cells_of_Z p1).2.2.1; have f3 := (cells_of_Z p1).2.2.2.1; have f4 := (cells_of_Z p1).2.2.2.2)
  obtain ⟨V, hV, n1, n2, n3⟩ := fiveZ p1
  rw [hV]
  exact end_type rfl (by rfl) rfl n1 ⟨rfl, below_gb ((below2 w _ _).trans (hb1.mono (by simp; omega))) n2 (by have := hb1.size; simp at this; omega) (by simp)⟩

end Go.Proofs.Ytogdjjleclbgcaa
