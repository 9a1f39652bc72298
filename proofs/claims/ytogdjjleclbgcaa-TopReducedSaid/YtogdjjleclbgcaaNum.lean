/- tileNumeral: function 16. -/
import Derived.Test.YtogdjjleclbgcaaFun
import Derived.Test.YtogdjjleclbgcaaRegs2
namespace Go.Proofs.Ytogdjjleclbgcaa
open Go.RowKit

set_option maxRecDepth 100000 in
set_option maxHeartbeats 1600000 in
theorem num_calls (n : Nat) (hn : n < 1000000) (w : World) (ok : Nat → Prop) : Calls Try.prog 16 #[.int .i64 n] w (Gives w ok (.num n)) := by
  go_enter Try.func16, Try.ntmps16
  go_wp2_with (go_at_call 17; refine (bound_calls _ 0 (by rfl) _ (fun _ => False)).mono ?_; rintro e w1 ⟨k0, rfl, hr1, hb1⟩)
  have hs1 : w.heap.size + 1 ≤ w1.heap.size := by have := hb1.size; simp at this; omega
  have hB1 : Below w.heap.size w w1 := (alloc_below w _).trans (hb1.mono (by simp))
  have hz1 := (hb1.block w.heap.size (by simp)).trans (Go.heap_alloc_new w _)
  obtain ⟨B3, hB3⟩ : ∃ x, x = w1.heap.size := ⟨_, rfl⟩
  have hq1 := Go.heap_alloc_new w1 k0.obj
  have hz2 := (Below.heap_alloc w1 k0.obj w.heap.size (by omega)).trans hz1
  have hB2 := hB1.alloc (by omega) k0.obj
  have hR2 : Rep (w1.alloc k0.obj) (fun z => w.heap.size + 1 ≤ z ∧ z ≠ B3) (.bnd 0) k0 := ((hr1.bound.below (alloc_below w1 k0.obj)).imp (by
    rintro z ⟨hz | hz, hz2⟩ _
    · exact hz.elim
    · exact ⟨by simpa using hz, by omega⟩))
  have hs2 : B3 < (w1.alloc k0.obj).heap.size := by simp; omega
  rw [← hB3] at hq1 ⊢
  generalize hW2 : World.alloc w1 _ = W2 at *
  have hsB : w.heap.size + 1 ≤ B3 := by omega
  have H2 := Lib.hid (And.intro hq1 (And.intro hz2 (And.intro hB2 hR2)))
  clear hq1 hz2 hB2 hR2 hz1 hB1 hb1 hr1 hW2 hB3 hs1
  go_wp2
  go_loopw [6] (fun v wr => ∃ (i : Nat) (q : Hd), v = .int .i64 i ∧ i ≤ n ∧ wr.heap[B3]? = some q.obj ∧ wr.heap[w.heap.size]? = some (Hd.obj ⟨0, ⟨#[]⟩, 0, none, 0, 0⟩) ∧ Below w.heap.size w wr ∧ B3 < wr.heap.size ∧
      Rep wr (fun z => w.heap.size + 1 ≤ z ∧ z ≠ B3) ((L.bnd 1).iter i (.bnd 0)) q) (fun v _ => n - (intOf v).toNat)
  case atStart =>
    obtain ⟨hq, hz, hB, hR⟩ := H2.out
    exact ⟨0, k0, rfl, by omega, hq, hz, hB, hs2, hR⟩
  case round =>
    clear H2 hs2
    obtain ⟨i, q, rfl, hi, hq, hz, hB, hs, hR⟩ := hrel
    by_cases hin : i < n
    · have HH := Lib.hid (And.intro hq (And.intro hz (And.intro hB hR)))
      clear hq hz hB hR
      go_wp2
      obtain ⟨hq, hz, hB, hR⟩ := HH.out
      have hS : wr.grownBy wr.drew none := gb_drew wr
      refine G_begin (fun w' => wr.grownBy w' none) (by kernel_rfl) ?_
      refine G_take 1 4 rfl (by kernel_rfl) (fun _ _ _ h => h) hS (v := ?_) (.inl ⟨by rfl, ?_⟩) ?_
      rotate_left
      · intro w' hw'; obtain ⟨e0, e1, e2, e3, e4, e5, e6, e7, e8⟩ := cells_of_block ((hw'.block B3 (by omega) (by simp)).trans hq); go_simp; try with_reducible rfl
      refine G_two 0 2 rfl rfl (by kernel_rfl) ?_ ?_
      · intro K hK
        go_simp
        go_at_call 17
        refine (bound_calls _ 1 (by rfl) _ (fun _ => False)).mono ?_
        rintro e w3 ⟨k1, rfl, hr3, hb3⟩
        have hS3 : wr.grownBy w3 none := gb_trans hS (gb_below hb3)
        refine hK _ _ ⟨hS3, ?_⟩
        clear hK K
        refine G_only 2 rfl (by kernel_rfl) ?_
        intro K hK
        go_simp
        have hS4 : wr.grownBy (w3.alloc (Hd.obj q)) none := gb_trans hS3 (gb_alloc _ _)
        refine hK _ _ ⟨hS4, ?_⟩
        clear hK K
        · have XX := hS3.size
          have R1 := (hr3.below (alloc_below w3 q.obj)).imp (ok' := fun z => (w.heap.size + 1 ≤ z ∧ z ≠ B3)) (by
            rintro z (hz | hz) _
            · exact hz.elim
            · simp at hz; exact ⟨by omega, by omega⟩)
          have R2 := hR.grown hS4 (by simp)
          have A0 := at0_of_block (new_at w3 q.obj _ rfl)
          refine G_only 3 rfl (by kernel_rfl) ?_
          intro K hK
          go_simp
          go_at_call 7
          refine (apps1 (.bnd 1) ((L.bnd 1).iter i (.bnd 0)) _ (fun z => (w.heap.size + 1 ≤ z ∧ z ≠ B3)) k1 q _ 1 R1 R2 A0).mono ?_
          rintro e w5 ⟨k5, rfl, hr5, hb5⟩
          have hS5 : wr.grownBy w5 none := gb_trans hS4 (gb_below hb5)
          refine hK _ _ ⟨hS5, ?_⟩
          clear hK K
          refine G_last 4 rfl (by kernel_rfl) (by kernel_rfl) ?_
          intro K hK
          have p5 := (hS5.block B3 (by omega) (by simp)).trans hq
          obtain ⟨e0, e1, e2, e3, e4, e5, e6, e7, e8⟩ := cells_of_block p5
          have ez := free_of_block p5
          go_simp
          refine hK _ _ ?_
          clear hK K e0 e1 e2 e3 e4 e5 e6 e7 e8 ez
          have h5 := hS5.size
          have h6 := hS4.size
          obtain ⟨V, hV, n1, n2, hsz⟩ := nineE (.int .i64 k5.op) (.string k5.name) (.int .i64 k5.num) (.int .i64 0) (.string ⟨#[]⟩) (.int .i64 0) (.slice none 0 0) (.slice none 0 0) (.slice k5.A k5.n k5.c) p5
          have HV := Lib.hid (show ∃ q', V.heap[B3]? = some (Hd.obj q') ∧ V.heap[w.heap.size]? = some (Hd.obj ⟨0, ⟨#[]⟩, 0, none, 0, 0⟩) ∧ Below w.heap.size w V ∧ Rep V (fun z => w.heap.size + 1 ≤ z ∧ z ≠ B3) ((L.bnd 1).iter (i + 1) (.bnd 0)) q' from
            ⟨k5, n1, (n2.block _ (by omega) (by simp; omega)).trans ((hS5.block _ (by omega) (by simp)).trans hz), below_gb (below_gb hB hS5 (by omega) (by simp)) n2 (by omega) (by simp; omega),
              (hr5.grown n2 (by rintro z (⟨_, hz⟩ | hz) e <;> simp at e <;> omega)).imp (by
                rintro z (hz | hz) _
                · exact hz
                · exact ⟨by omega, by omega⟩)⟩)
          rw [hV]
          have hVs : B3 < V.heap.size := by omega
          clear hV n1 n2 hsz p5 hS5 hS4 hr5 hb5 R1 R2 A0 hq hz hB hR XX h6
          go_wp2
          go_roundw
          case rel =>
            obtain ⟨q', a1, a2, a3, a4⟩ := HV.out
            exact ⟨i + 1, q', by go_num, by omega, a1, a2, a3, hVs, a4⟩
          case measure => simp [intOf]; omega
      · intro K hK
        go_simp
        have hS3 : wr.grownBy (wr.drew.alloc (Hd.obj q)) none := gb_trans hS (gb_alloc _ _)
        refine hK _ _ ⟨hS3, ?_⟩
        clear hK K
        refine G_only 0 rfl (by kernel_rfl) ?_
        intro K hK
        go_simp
        go_at_call 17
        refine (bound_calls _ 1 (by rfl) _ (fun _ => False)).mono ?_
        rintro e w3 ⟨k1, rfl, hr3, hb3⟩
        have hS4 : wr.grownBy w3 none := gb_trans hS3 (gb_below hb3)
        refine hK _ _ ⟨hS4, ?_⟩
        clear hK K
        · have XX := hS4.size
          have R1 := hr3.imp (ok' := fun z => (w.heap.size + 1 ≤ z ∧ z ≠ B3)) (by
            rintro z (hz | hz) _
            · exact hz.elim
            · simp at hz; exact ⟨by omega, by omega⟩)
          have R2 := hR.grown hS4 (by simp)
          have A0 := at0_of_block ((hb3.block wr.heap.size (by simp)).trans (new_at wr.drew q.obj _ rfl))
          refine G_only 3 rfl (by kernel_rfl) ?_
          intro K hK
          go_simp
          go_at_call 7
          refine (apps1 (.bnd 1) ((L.bnd 1).iter i (.bnd 0)) _ (fun z => (w.heap.size + 1 ≤ z ∧ z ≠ B3)) k1 q _ 1 R1 R2 A0).mono ?_
          rintro e w5 ⟨k5, rfl, hr5, hb5⟩
          have hS5 : wr.grownBy w5 none := gb_trans hS4 (gb_below hb5)
          refine hK _ _ ⟨hS5, ?_⟩
          clear hK K
          refine G_last 4 rfl (by kernel_rfl) (by kernel_rfl) ?_
          intro K hK
          have p5 := (hS5.block B3 (by omega) (by simp)).trans hq
          obtain ⟨e0, e1, e2, e3, e4, e5, e6, e7, e8⟩ := cells_of_block p5
          have ez := free_of_block p5
          go_simp
          refine hK _ _ ?_
          clear hK K e0 e1 e2 e3 e4 e5 e6 e7 e8 ez
          have h5 := hS5.size
          have h6 := hS4.size
          obtain ⟨V, hV, n1, n2, hsz⟩ := nineE (.int .i64 k5.op) (.string k5.name) (.int .i64 k5.num) (.int .i64 0) (.string ⟨#[]⟩) (.int .i64 0) (.slice none 0 0) (.slice none 0 0) (.slice k5.A k5.n k5.c) p5
          have HV := Lib.hid (show ∃ q', V.heap[B3]? = some (Hd.obj q') ∧ V.heap[w.heap.size]? = some (Hd.obj ⟨0, ⟨#[]⟩, 0, none, 0, 0⟩) ∧ Below w.heap.size w V ∧ Rep V (fun z => w.heap.size + 1 ≤ z ∧ z ≠ B3) ((L.bnd 1).iter (i + 1) (.bnd 0)) q' from
            ⟨k5, n1, (n2.block _ (by omega) (by simp; omega)).trans ((hS5.block _ (by omega) (by simp)).trans hz), below_gb (below_gb hB hS5 (by omega) (by simp)) n2 (by omega) (by simp; omega),
              (hr5.grown n2 (by rintro z (⟨_, hz⟩ | hz) e <;> simp at e <;> omega)).imp (by
                rintro z (hz | hz) _
                · exact hz
                · exact ⟨by omega, by omega⟩)⟩)
          rw [hV]
          have hVs : B3 < V.heap.size := by omega
          clear hV n1 n2 hsz p5 hS5 hS4 hr5 hb5 R1 R2 A0 hq hz hB hR XX h6
          go_wp2
          go_roundw
          case rel =>
            obtain ⟨q', a1, a2, a3, a4⟩ := HV.out
            exact ⟨i + 1, q', by go_num, by omega, a1, a2, a3, hVs, a4⟩
          case measure => simp [intOf]; omega
    · obtain rfl : i = n := by omega
      obtain ⟨e0, e1, e2, e3, e4, e5, e6, e7, e8⟩ := cells_of_block hq
      have HZ := Lib.hid (And.intro hR (And.intro hB hz))
      clear hR hB hz hq
      go_wp2_with (go_at_call 9; refine (fun0 _ 2 (by omega) _ (fun z => w.heap.size + 1 ≤ z ∧ z ≠ B3) q HZ.out.1).mono ?_; rintro e w5 ⟨k1, rfl, hr1, hb1⟩; have p1 := (hb1.block w.heap.size (by omega)).trans HZ.out.2.2; obtain ⟨f0, f1, f2, f3, f4, f5, f6, f7, f8⟩ := cells_of_block p1; have fz := free_of_block p1; have HQ := Lib.hid (And.intro hr1 hb1); clear hr1 hb1)
      refine end9 k1 rfl (by rfl) rfl p1 (fun F hF _ => ⟨k1, rfl, ?_, ?_⟩)
      · refine (HQ.out.1.grown hF ?_).imp ?_
        · rintro z (⟨hz, _⟩ | hz) e <;> simp at e <;> omega
        · rintro z (⟨hz, _⟩ | hz) _
          · exact .inr (by omega)
          · exact .inr (by omega)
      · exact below_gb (below_gb HZ.out.2.1 (gb_below HQ.out.2) (by omega) (by simp)) hF (by have := HQ.out.2.size; omega) (by simp)

end Go.Proofs.Ytogdjjleclbgcaa
