/- tileCount: function 5. -/
import Derived.Test.YtogdjjleclbgcaaLess
import Derived.Test.YtogdjjleclbgcaaNum
import Derived.Test.YtogdjjleclbgcaaLift
namespace Go.Proofs.Ytogdjjleclbgcaa
open Go.RowKit

theorem Tile.lt {w : World} {g : Nat} (h : Tile w g) : g < w.heap.size := by
  obtain ⟨A, l, c, i, x, hg, _⟩ := h
  exact (Array.getElem?_eq_some_iff.1 hg).1
theorem Tile.grown {w w' : World} {g : Nat} {row : Option Nat} (h : Tile w g) (hg : w.grownBy w' row) (hne : ∀ r, row = some r → g < r) : Tile w' g := by
  obtain ⟨A, l, c, i, x, hg', h0, hi, hl, hc⟩ := h
  refine ⟨A, l, c, i, x, (hg.block g (Array.getElem?_eq_some_iff.1 hg').1 (fun e => by have := hne g e.symm; omega)).trans hg', h0, hi, hl, fun j hj => ?_⟩
  obtain ⟨b, o, v, ha, hne', hc⟩ := hc j hj
  exact ⟨b, o, v, ha, hne', (hg.cell_far ⟨b, o + j, none⟩ (World.block_lt_of_cell? w _ hc) (fun e => by have := hne b e.symm; omega)).trans hc⟩
theorem Tile.below {w w' : World} {g : Nat} (h : Tile w g) (hb : Below w.heap.size w w') : Tile w' g := h.grown (gb_below hb) (by simp)

theorem wrap_small (n : Int) (h0 : 0 ≤ n) (h1 : n < 1000000) : IntKind.i64.wrap n = n := by
  simp only [IntKind.wrap, IntKind.bits, IntKind.signed]
  have : n % 2 ^ 64 = n := Int.emod_eq_of_lt h0 (by omega)
  simp [this]; omega
theorem most_clo {d : Nat} {t : L} (h : L.clo d t) : t.most ≤ d + t.depth := by
  induction t generalizing d with
  | bnd k => simp only [L.clo] at h; simp only [L.most]; omega
  | abs b ih => simp only [L.clo] at h; have := ih h; simp only [L.most, L.depth]; omega
  | app f a ih1 ih2 => simp only [L.clo] at h; have := ih1 h.1; have := ih2 h.2; simp only [L.most, L.depth]; omega
  | _ => simp [L.most]
theorem most_tm (c : L.C) (h : c.good) (hh : c.high ≤ 3) : c.tm.most < 1000000 ∧ c.tm.depth + 0 < 1000000 := by
  have h1 : c.tm.depth ≤ 38 := Nat.le_trans (L.C.depth_tm h) (Nat.le_trans (L.C.dm_mono hh) (by decide))
  have h2 := most_clo (L.C.clo_tm c)
  omega

/-- A term that was drawn, and its value. -/
def Counted (w : World) (g deep : Nat) (e : Ending) (w' : World) : Prop :=
  ∃ (c : L.C) (k : Hd), e = .returned (.tuple #[k.val, .int .i64 c.val]) ∧ c.good ∧ c.high ≤ deep ∧ Rep w' (fun z => w.heap.size ≤ z) c.tm k ∧ Tile w' g ∧ w.grownBy w' (some g)

theorem less_nat (w : World) (g : Nat) (n : Int) (ht : Tile w g) (hn : n < 1000000) : Calls Try.prog 8 #[.pointer (some ⟨g, 0, none⟩), .int .i64 n] w (fun e w' => ∃ r : Nat, e = .returned (.int .i64 r) ∧ ((r : Int) < n ∨ r = 0) ∧ Tile w' g ∧ w.grownBy w' (some g)) :=
  (less_calls w g n ht hn).mono fun e w' ⟨r, he, h0, h1, h2, h3⟩ => ⟨r.toNat, by rw [he, Int.toNat_of_nonneg h0], by omega, h2, h3⟩

set_option maxRecDepth 100000 in
set_option maxHeartbeats 6400000 in
theorem count_step (w : World) (g deep : Nat) (hg : g < w.heap.size) (ht : Tile w g) (hd : deep ≤ 3)
    (ih : ∀ d, d < deep → ∀ (w : World) (i : Int), i = d → g < w.heap.size → Tile w g → Calls Try.prog 5 #[.pointer (some ⟨g, 0, none⟩), .int .i64 i] w (Counted w g d)) :
    Calls Try.prog 5 #[.pointer (some ⟨g, 0, none⟩), .int .i64 deep] w (Counted w g deep) := by
  have HT := Lib.hid ht
  have IH := Lib.hid ih
  clear ht ih
  go_enter Try.func5, Try.ntmps5
  go_wp2_with fail
  refine (less_nat _ g 6 (HT.out.below (alloc_below w _)) (by omega)).mono ?_
  rintro e w1 ⟨r, rfl, h2, h3, h4⟩
  have q1 := (h4.block w.heap.size (by simp) (by simp; omega)).trans (Go.heap_alloc_new w _)
  have G1 := gb_trans (gb_alloc w _) h4
  have hs1 : w.heap.size + 1 ≤ w1.heap.size := by have := h4.size; simp at this; omega
  have H1 := Lib.hid (And.intro h3 (And.intro q1 G1))
  clear h3 q1 h4 G1
  have hr6 : r < 6 := by omega
  clear h2
  have leaf : ((deep : Int) == 0) = true ∨ (((deep : Int) == 0) = false ∧ ((r : Int) == 0) = true) ∨ (((deep : Int) == 0) = false ∧ ((r : Int) == 0) = false) := by
    cases h : ((deep : Int) == 0) <;> cases h' : ((r : Int) == 0) <;> simp
  rcases leaf with hl | ⟨hl, hl'⟩ | ⟨hl, hl'⟩
  · go_wp2_with fail
    refine (less_nat _ g 6 H1.out.1 (by omega)).mono ?_
    rintro e w2 ⟨n, rfl, a2, a3, a4⟩
    have hs2 : w1.heap.size ≤ w2.heap.size := a4.size
    have q2 := (a4.block w.heap.size (by omega) (by simp; omega)).trans H1.out.2.1
    have H2 := Lib.hid (And.intro a3 (And.intro a4 q2))
    clear a3 a4 q2
    go_wp2_with fail
    refine (num_calls n (by omega) _ (fun _ => False)).mono ?_
    rintro e w3 ⟨k, rfl, hr3, hb3⟩
    have hs3 : w2.heap.size ≤ w3.heap.size := hb3.size
    have p3 := (hb3.block w.heap.size (by omega)).trans H2.out.2.2
    have H3 := Lib.hid (And.intro hr3 (And.intro hb3 p3))
    have f0 := (cells_of_block p3).1
    have f1 := (cells_of_block p3).2.1
    have f2 := (cells_of_block p3).2.2.1
    have f3 := (cells_of_block p3).2.2.2.1
    have f4 := (cells_of_block p3).2.2.2.2.1
    have f5 := (cells_of_block p3).2.2.2.2.2.1
    have f6 := (cells_of_block p3).2.2.2.2.2.2.1
    have f7 := (cells_of_block p3).2.2.2.2.2.2.2.1
    have f8 := (cells_of_block p3).2.2.2.2.2.2.2.2
    have fz := free_of_block p3
    clear hr3 hb3 p3
    go_wp2
    refine end9t k (.int .i64 n) rfl (by rfl) (by rfl) rfl H3.out.2.2 (fun F hF hk => ⟨.num n, k, rfl, by simp only [L.C.good]; omega, by simp [L.C.high], (H3.out.1.grown hF ?_).imp ?_, ?_, ?_⟩)
    · rintro z (hz | hz) e
      · exact hz
      · simp at e; omega
    · rintro z (hz | hz) _
      · exact hz.elim
      · omega
    · exact (H2.out.1.below H3.out.2.1).grown hF (by simp; omega)
    · exact own_row (tr_row H1.out.2.2 (tr_row H2.out.2.1 (gb_some (gb_below H3.out.2.1)))) hF (Nat.le_refl _)
  · go_wp2_with fail
    refine (less_nat _ g 6 H1.out.1 (by omega)).mono ?_
    rintro e w2 ⟨n, rfl, a2, a3, a4⟩
    have hs2 : w1.heap.size ≤ w2.heap.size := a4.size
    have q2 := (a4.block w.heap.size (by omega) (by simp; omega)).trans H1.out.2.1
    have H2 := Lib.hid (And.intro a3 (And.intro a4 q2))
    clear a3 a4 q2
    go_wp2_with fail
    refine (num_calls n (by omega) _ (fun _ => False)).mono ?_
    rintro e w3 ⟨k, rfl, hr3, hb3⟩
    have hs3 : w2.heap.size ≤ w3.heap.size := hb3.size
    have p3 := (hb3.block w.heap.size (by omega)).trans H2.out.2.2
    have H3 := Lib.hid (And.intro hr3 (And.intro hb3 p3))
    have f0 := (cells_of_block p3).1
    have f1 := (cells_of_block p3).2.1
    have f2 := (cells_of_block p3).2.2.1
    have f3 := (cells_of_block p3).2.2.2.1
    have f4 := (cells_of_block p3).2.2.2.2.1
    have f5 := (cells_of_block p3).2.2.2.2.2.1
    have f6 := (cells_of_block p3).2.2.2.2.2.2.1
    have f7 := (cells_of_block p3).2.2.2.2.2.2.2.1
    have f8 := (cells_of_block p3).2.2.2.2.2.2.2.2
    have fz := free_of_block p3
    clear hr3 hb3 p3
    go_wp2
    refine end9t k (.int .i64 n) rfl (by rfl) (by rfl) rfl H3.out.2.2 (fun F hF hk => ⟨.num n, k, rfl, by simp only [L.C.good]; omega, by simp [L.C.high], (H3.out.1.grown hF ?_).imp ?_, ?_, ?_⟩)
    · rintro z (hz | hz) e
      · exact hz
      · simp at e; omega
    · rintro z (hz | hz) _
      · exact hz.elim
      · omega
    · exact (H2.out.1.below H3.out.2.1).grown hF (by simp; omega)
    · exact own_row (tr_row H1.out.2.2 (tr_row H2.out.2.1 (gb_some (gb_below H3.out.2.1)))) hF (Nat.le_refl _)
  · have hdp : 1 ≤ deep := by
      rcases Nat.eq_zero_or_pos deep with h | h
      · subst h; cases hl
      · exact h
    go_wp2_with fail
    refine (IH.out (deep - 1) (by omega) w1 _ (by omega) (by omega) H1.out.1).mono ?_
    rintro e w2 ⟨ca, ka, rfl, ga, xa, ra, t2, G2⟩
    have hs2 : w1.heap.size ≤ w2.heap.size := G2.size
    have q2 := (G2.block w.heap.size (by omega) (by simp; omega)).trans H1.out.2.1
    have H2 := Lib.hid (And.intro ga (And.intro xa (And.intro ra (And.intro t2 (And.intro G2 q2)))))
    have va := L.C.good_val ga
    clear ga xa ra t2 G2 q2
    go_wp2_with fail
    refine (IH.out (deep - 1) (by omega) _ _ (by omega) (by simp; omega) (H2.out.2.2.2.1.below (alloc_below w2 _))).mono ?_
    rintro e w3 ⟨cb, kb, rfl, gb, xb, rb, t3, G3⟩
    have hs3 : w2.heap.size + 1 ≤ w3.heap.size := by have := G3.size; simp at this; omega
    have q3 := (G3.block w.heap.size (by simp; omega) (by simp; omega)).trans ((Below.heap_alloc w2 ka.obj w.heap.size (by omega)).trans H2.out.2.2.2.2.2)
    have qa3 := (G3.block w2.heap.size (by simp) (by simp; omega)).trans (Go.heap_alloc_new w2 ka.obj)
    have H3 := Lib.hid (And.intro gb (And.intro xb (And.intro rb (And.intro t3 (And.intro G3 (And.intro q3 qa3))))))
    have vb := L.C.good_val gb
    clear gb xb rb t3 G3 q3 qa3
    go_wp2_with fail
    refine (bound_calls _ 0 (by rfl) _ (fun _ => False)).mono ?_
    rintro e w4 ⟨_, rfl, rfl, hb4⟩
    go_wp2_with fail
    refine (bound_calls _ 1 (by rfl) _ (fun _ => False)).mono ?_
    rintro e w5 ⟨_, rfl, rfl, hb5⟩
    go_wp2_with fail
    refine (bound_calls _ 2 (by rfl) _ (fun _ => False)).mono ?_
    rintro e w6 ⟨_, rfl, rfl, hb6⟩
    go_wp2_with fail
    refine (bound_calls _ 3 (by rfl) _ (fun _ => False)).mono ?_
    rintro e w7 ⟨_, rfl, rfl, hb7⟩
    have hb47 : Below (w3.alloc kb.obj).heap.size (w3.alloc kb.obj) w7 := ((hb4.trans (hb5.mono hb4.size)).trans (hb6.mono (Nat.le_trans hb4.size hb5.size))).trans (hb7.mono (Nat.le_trans hb4.size (Nat.le_trans hb5.size hb6.size)))
    have hs7 : w3.heap.size + 1 ≤ w7.heap.size := by have := hb47.size; simp at this; omega
    have q7 := (hb47.block w.heap.size (by simp; omega)).trans ((Below.heap_alloc w3 kb.obj w.heap.size (by omega)).trans H3.out.2.2.2.2.2.1)
    have qa7 := (hb47.block w2.heap.size (by simp; omega)).trans ((Below.heap_alloc w3 kb.obj w2.heap.size (by omega)).trans H3.out.2.2.2.2.2.2)
    have qb7 := (hb47.block w3.heap.size (by simp)).trans (Go.heap_alloc_new w3 kb.obj)
    have H7 := Lib.hid (And.intro hb47 (And.intro q7 (And.intro qa7 qb7)))
    clear hb4 hb5 hb6 hb7 hb47 q7 qa7 qb7
    by_cases k3 : (r : Int) < 3
    · by_cases k40 : (ca.val : Int) + cb.val ≤ 40
      · go_wp2_with fail
        refine gen4 ?_
        intro W hbW hsW g0 g1 g2 g3
        have qR := (hbW.block w.heap.size (by omega)).trans H7.out.2.1
        have qa := (hbW.block w2.heap.size (by omega)).trans H7.out.2.2.1
        have qb := (hbW.block w3.heap.size (by omega)).trans H7.out.2.2.2
        have RA : Rep W (fun z => w.heap.size + 1 ≤ z) ca.tm ka := ((((((H2.out.2.2.1.below (alloc_below w2 ka.obj)).grown H3.out.2.2.2.2.1 (by simp; omega)).below (alloc_below w3 kb.obj)).below H7.out.1).below hbW)).imp (by omega)
        have RB : Rep W (fun z => w.heap.size + 1 ≤ z) cb.tm kb := (((H3.out.2.2.1.below (alloc_below w3 kb.obj)).below H7.out.1).below hbW).imp (by simp; omega)
        have TW : Tile W g := ((H3.out.2.2.2.1.below (alloc_below w3 kb.obj)).below H7.out.1).below hbW
        have GW : w.grownBy W (some g) := tr_row (tr_row H1.out.2.2 H2.out.2.2.2.2.1) (tr_row (gb_some (gb_alloc w2 ka.obj)) (tr_row H3.out.2.2.2.2.1 (gb_some (gb_trans (gb_alloc w3 kb.obj) (gb_trans (gb_below H7.out.1) (gb_below hbW))))))
        have hsW1 : w7.heap.size + 4 ≤ W.heap.size := by omega
        clear hsW
        have HW := Lib.hid (And.intro RA (And.intro RB (And.intro TW GW)))
        clear RA RB TW GW hbW
        refine G_begin (fun w' => W.grownBy w' (some w.heap.size)) (by kernel_rfl) ?_
        have hB0 : Below W.heap.size W W.drew := (Below.refl _ _).drew
        generalize hv0 : World.drew W = v0 at *
        clear hv0
        have hz0 : w.heap.size + 1 ≤ v0.heap.size := by have := hB0.size; omega
        refine G_take 0 17 rfl (by kernel_rfl) (fun _ _ _ h => h) (gb_some (gb_below hB0)) (v := ?_) (.inl ⟨by rfl, ?_⟩) ?_
        rotate_left
        · intro w' hw'; obtain ⟨e0, e1, e2, e3, e4, e5, e6, e7, e8⟩ := cells_of_block ((hw'.block (w7.heap.size + 1 + 1 + 1) (by omega) (by simp; omega)).trans g3); go_simp; try with_reducible rfl
        refine G_take 1 17 rfl (by kernel_rfl) (fun _ _ _ h => h) (gb_some (gb_below hB0)) (v := ?_) (.inl ⟨by rfl, ?_⟩) ?_
        rotate_left
        · intro w' hw'; obtain ⟨e0, e1, e2, e3, e4, e5, e6, e7, e8⟩ := cells_of_block ((hw'.block (w7.heap.size + 1) (by omega) (by simp; omega)).trans g1); go_simp; try with_reducible rfl
        refine G_take 2 17 rfl (by kernel_rfl) (fun _ _ _ h => h) (gb_some (gb_below hB0)) (v := ?_) (.inl ⟨by rfl, ?_⟩) ?_
        rotate_left
        · intro w' hw'; obtain ⟨e0, e1, e2, e3, e4, e5, e6, e7, e8⟩ := cells_of_block ((hw'.block (w7.heap.size + 1 + 1) (by omega) (by simp; omega)).trans g2); go_simp; try with_reducible rfl
        refine G_take 3 17 rfl (by kernel_rfl) (fun _ _ _ h => h) (gb_some (gb_below hB0)) (v := ?_) (.inl ⟨by rfl, ?_⟩) ?_
        rotate_left
        · intro w' hw'; obtain ⟨e0, e1, e2, e3, e4, e5, e6, e7, e8⟩ := cells_of_block ((hw'.block (w7.heap.size + 1) (by omega) (by simp; omega)).trans g1); go_simp; try with_reducible rfl
        refine G_take 4 17 rfl (by kernel_rfl) (fun _ _ _ h => h) (gb_some (gb_below hB0)) (v := ?_) (.inl ⟨by rfl, ?_⟩) ?_
        rotate_left
        · intro w' hw'; obtain ⟨e0, e1, e2, e3, e4, e5, e6, e7, e8⟩ := cells_of_block ((hw'.block (w7.heap.size) (by omega) (by simp; omega)).trans g0); go_simp; try with_reducible rfl
        refine G_take 9 17 rfl (by kernel_rfl) (fun _ _ _ h => h) (gb_some (gb_below hB0)) (v := ?_) (.inl ⟨by rfl, ?_⟩) ?_
        rotate_left
        · intro w' hw'; obtain ⟨e0, e1, e2, e3, e4, e5, e6, e7, e8⟩ := cells_of_block ((hw'.block (w2.heap.size) (by omega) (by simp; omega)).trans qa); go_simp; try with_reducible rfl
        refine G_take 10 17 rfl (by kernel_rfl) (fun _ _ _ h => h) (gb_some (gb_below hB0)) (v := ?_) (.inl ⟨by rfl, ?_⟩) ?_
        rotate_left
        · intro w' hw'; obtain ⟨e0, e1, e2, e3, e4, e5, e6, e7, e8⟩ := cells_of_block ((hw'.block (w3.heap.size) (by omega) (by simp; omega)).trans qb); go_simp; try with_reducible rfl
        refine G_take 13 17 rfl (by kernel_rfl) (fun _ _ _ h => h) (gb_some (gb_below hB0)) (v := ?_) (.inl ⟨by rfl, ?_⟩) ?_
        rotate_left
        · intro w' hw'; go_simp; try with_reducible rfl
        refine G_take 14 17 rfl (by kernel_rfl) (fun _ _ _ h => h) (gb_some (gb_below hB0)) (v := ?_) (.inl ⟨by rfl, ?_⟩) ?_
        rotate_left
        · intro w' hw'; go_simp; try with_reducible rfl
        refine G_take 15 17 rfl (by kernel_rfl) (fun _ _ _ h => h) (gb_some (gb_below hB0)) (v := ?_) (.inl ⟨by rfl, ?_⟩) ?_
        rotate_left
        · intro w' hw'; go_simp; try with_reducible rfl
        refine G_two 5 11 rfl rfl (by kernel_rfl) ?_ ?_
        · skip
          intro K hK
          go_simp
          have st1 := alloc_below (v0) (Hd.obj2 ⟨4, ⟨#[]⟩, 1, none, 0, 0⟩ ⟨4, ⟨#[]⟩, 0, none, 0, 0⟩)
          have X1 := new_at (v0) (Hd.obj2 ⟨4, ⟨#[]⟩, 1, none, 0, 0⟩ ⟨4, ⟨#[]⟩, 0, none, 0, 0⟩) v0.heap.size rfl
          have hB1 := hB0.trans (st1.mono hB0.size)
          refine hK _ _ ⟨gb_some (gb_below hB1), ?_⟩
          clear hK K
          generalize hv1 : World.alloc (v0) _ = v1 at *
          clear hv1
          have hz1 : w.heap.size + 1 ≤ v1.heap.size := by have := st1.size; omega
          refine G_two 6 11 rfl rfl (by kernel_rfl) ?_ ?_
          · skip
            intro K hK
            go_simp
            go_at_call 7
            refine (apps2 (.bnd 2) (.bnd 1) (.bnd 0) _ (fun z => w.heap.size + 1 ≤ z) (⟨4, ⟨#[]⟩, 2, none, 0, 0⟩ : Hd) (⟨4, ⟨#[]⟩, 1, none, 0, 0⟩ : Hd) (⟨4, ⟨#[]⟩, 0, none, 0, 0⟩ : Hd) _ 2 (show Rep v1 (fun z => w.heap.size + 1 ≤ z) (.bnd 2) (⟨4, ⟨#[]⟩, 2, none, 0, 0⟩) from rfl) (show Rep v1 (fun z => w.heap.size + 1 ≤ z) (.bnd 1) (⟨4, ⟨#[]⟩, 1, none, 0, 0⟩) from rfl) (show Rep v1 (fun z => w.heap.size + 1 ≤ z) (.bnd 0) (⟨4, ⟨#[]⟩, 0, none, 0, 0⟩) from rfl) (at_of_obj2 X1).1 (at_of_obj2 X1).2).mono ?_
            rintro e v2 ⟨k2, rfl, hr2, st2⟩
            have hB2 := hB1.trans (st2.mono hB1.size)
            have P2 := hr2.imp (ok' := (fun z => w.heap.size + 1 ≤ z)) (by rintro z (h | h) _ <;> omega)
            clear hr2
            refine hK _ _ ⟨gb_some (gb_below hB2), ?_⟩
            clear hK K
            have hz2 : w.heap.size + 1 ≤ v2.heap.size := by have := st2.size; omega
            have X1_2 := (st2.block _ (Array.getElem?_eq_some_iff.1 X1).1).trans X1
            refine G_two 7 11 rfl rfl (by kernel_rfl) ?_ ?_
            · skip
              intro K hK
              go_simp
              have st3 := alloc_below (v2) (Hd.obj2 ⟨4, ⟨#[]⟩, 1, none, 0, 0⟩ k2)
              have X3 := new_at (v2) (Hd.obj2 ⟨4, ⟨#[]⟩, 1, none, 0, 0⟩ k2) v2.heap.size rfl
              have hB3 := hB2.trans (st3.mono hB2.size)
              refine hK _ _ ⟨gb_some (gb_below hB3), ?_⟩
              clear hK K
              generalize hv3 : World.alloc (v2) _ = v3 at *
              clear hv3
              have hz3 : w.heap.size + 1 ≤ v3.heap.size := by have := st3.size; omega
              have P2_3 := P2.below st3
              have X1_3 := (st3.block _ (Array.getElem?_eq_some_iff.1 X1_2).1).trans X1_2
              refine G_two 8 11 rfl rfl (by kernel_rfl) ?_ ?_
              · skip
                intro K hK
                go_simp
                go_at_call 7
                refine (apps2 (.bnd 3) (.bnd 1) (.app (.app (.bnd 2) (.bnd 1)) (.bnd 0)) _ (fun z => w.heap.size + 1 ≤ z) (⟨4, ⟨#[]⟩, 3, none, 0, 0⟩ : Hd) (⟨4, ⟨#[]⟩, 1, none, 0, 0⟩ : Hd) k2 _ 2 (show Rep v3 (fun z => w.heap.size + 1 ≤ z) (.bnd 3) (⟨4, ⟨#[]⟩, 3, none, 0, 0⟩) from rfl) (show Rep v3 (fun z => w.heap.size + 1 ≤ z) (.bnd 1) (⟨4, ⟨#[]⟩, 1, none, 0, 0⟩) from rfl) P2_3 (at_of_obj2 X3).1 (at_of_obj2 X3).2).mono ?_
                rintro e v4 ⟨k4, rfl, hr4, st4⟩
                have hB4 := hB3.trans (st4.mono hB3.size)
                have P4 := hr4.imp (ok' := (fun z => w.heap.size + 1 ≤ z)) (by rintro z (h | h) _ <;> omega)
                clear hr4
                refine hK _ _ ⟨gb_some (gb_below hB4), ?_⟩
                clear hK K
                have hz4 : w.heap.size + 1 ≤ v4.heap.size := by have := st4.size; omega
                have P2_4 := P2_3.below st4
                have X1_4 := (st4.block _ (Array.getElem?_eq_some_iff.1 X1_3).1).trans X1_3
                have X3_4 := (st4.block _ (Array.getElem?_eq_some_iff.1 X3).1).trans X3
                refine G_only 11 rfl (by kernel_rfl) ?_
                intro K hK
                go_simp
                have st5 := alloc_below (v4) (Hd.obj2 ka kb)
                have X5 := new_at (v4) (Hd.obj2 ka kb) v4.heap.size rfl
                have hB5 := hB4.trans (st5.mono hB4.size)
                refine hK _ _ ⟨gb_some (gb_below hB5), ?_⟩
                clear hK K
                generalize hv5 : World.alloc (v4) _ = v5 at *
                clear hv5
                have hz5 : w.heap.size + 1 ≤ v5.heap.size := by have := st5.size; omega
                have P2_5 := P2_4.below st5
                have P4_5 := P4.below st5
                have X1_5 := (st5.block _ (Array.getElem?_eq_some_iff.1 X1_4).1).trans X1_4
                have X3_5 := (st5.block _ (Array.getElem?_eq_some_iff.1 X3_4).1).trans X3_4
                refine G_only 12 rfl (by kernel_rfl) ?_
                intro K hK
                go_simp
                go_at_call 9
                refine (fun2 (.app (.app (.bnd 3) (.bnd 1)) (.app (.app (.bnd 2) (.bnd 1)) (.bnd 0))) 4 (by omega) _ (fun z => w.heap.size + 1 ≤ z) k4 P4_5 ca.tm cb.tm ka kb _ 2 (HW.out.1.below hB5) (HW.out.2.1.below hB5) (at_of_obj2 X5).1 (at_of_obj2 X5).2).mono ?_
                rintro e v6 ⟨k6, rfl, hr6, st6⟩
                have hB6 := hB5.trans (st6.mono hB5.size)
                have P6 := hr6.imp (ok' := (fun z => w.heap.size + 1 ≤ z)) (by rintro z (h | h) _ <;> omega)
                clear hr6
                refine hK _ _ ⟨gb_some (gb_below hB6), ?_⟩
                clear hK K
                have hz6 : w.heap.size + 1 ≤ v6.heap.size := by have := st6.size; omega
                have P2_6 := P2_5.below st6
                have P4_6 := P4_5.below st6
                have X1_6 := (st6.block _ (Array.getElem?_eq_some_iff.1 X1_5).1).trans X1_5
                have X3_6 := (st6.block _ (Array.getElem?_eq_some_iff.1 X3_5).1).trans X3_5
                have X5_6 := (st6.block _ (Array.getElem?_eq_some_iff.1 X5).1).trans X5
                refine G_only 16 rfl (by kernel_rfl) ?_
                intro K hK
                have p7 := (hB6.block w.heap.size (by omega)).trans qR
                have f0 := (cells_of_block p7).1
                have f1 := (cells_of_block p7).2.1
                have f2 := (cells_of_block p7).2.2.1
                have f3 := (cells_of_block p7).2.2.2.1
                have f4 := (cells_of_block p7).2.2.2.2.1
                have f5 := (cells_of_block p7).2.2.2.2.2.1
                have f6 := (cells_of_block p7).2.2.2.2.2.2.1
                have f7 := (cells_of_block p7).2.2.2.2.2.2.2.1
                have f8 := (cells_of_block p7).2.2.2.2.2.2.2.2
                have fz := free_of_block p7
                go_simp
                obtain ⟨V, hV, n1, n2, hsz⟩ := nineE (.int .i64 k6.op) (.string k6.name) (.int .i64 k6.num) (.int .i64 0) (.string ⟨#[]⟩) (.int .i64 0) (.slice none 0 0) (.slice none 0 0) (.slice k6.A k6.n k6.c) p7
                rw [hV]
                refine hK _ _ ⟨tr_row (gb_some (gb_below hB6)) n2, ?_⟩
                clear hK K hV f0 f1 f2 f3 f4 f5 f6 f7 f8 fz
                refine G_last 17 rfl (by kernel_rfl) (by kernel_rfl) ?_
                intro K hK
                go_simp
                refine hK _ _ ?_
                clear hK K
                go_wp2
                refine end_rowt k6 (.int .i64 (IntKind.i64.wrap (ca.val + cb.val))) rfl (by rfl) (by rfl) rfl n1 ⟨.add ca cb, k6, (by rw [wrap_small _ (by omega) (by omega)]; simp [L.C.val]), ⟨H2.out.1, H3.out.1, by omega⟩, (by have := H2.out.2.1; have := H3.out.2.1; simp only [L.C.high]; omega), ?_, ?_, ?_⟩
                · exact (P6.grown n2 (by simp; omega)).imp (by omega)
                · exact (HW.out.2.2.1.below hB6).grown n2 (by simp; omega)
                · exact own_row (tr_row HW.out.2.2.2 (gb_some (gb_below hB6))) n2 (Nat.le_refl _)
              · skip
                intro K hK
                go_simp
                have st4 := alloc_below (v3) (Hd.obj2 ka kb)
                have X4 := new_at (v3) (Hd.obj2 ka kb) v3.heap.size rfl
                have hB4 := hB3.trans (st4.mono hB3.size)
                refine hK _ _ ⟨gb_some (gb_below hB4), ?_⟩
                clear hK K
                generalize hv4 : World.alloc (v3) _ = v4 at *
                clear hv4
                have hz4 : w.heap.size + 1 ≤ v4.heap.size := by have := st4.size; omega
                have P2_4 := P2_3.below st4
                have X1_4 := (st4.block _ (Array.getElem?_eq_some_iff.1 X1_3).1).trans X1_3
                have X3_4 := (st4.block _ (Array.getElem?_eq_some_iff.1 X3).1).trans X3
                refine G_only 8 rfl (by kernel_rfl) ?_
                intro K hK
                go_simp
                go_at_call 7
                refine (apps2 (.bnd 3) (.bnd 1) (.app (.app (.bnd 2) (.bnd 1)) (.bnd 0)) _ (fun z => w.heap.size + 1 ≤ z) (⟨4, ⟨#[]⟩, 3, none, 0, 0⟩ : Hd) (⟨4, ⟨#[]⟩, 1, none, 0, 0⟩ : Hd) k2 _ 2 (show Rep v4 (fun z => w.heap.size + 1 ≤ z) (.bnd 3) (⟨4, ⟨#[]⟩, 3, none, 0, 0⟩) from rfl) (show Rep v4 (fun z => w.heap.size + 1 ≤ z) (.bnd 1) (⟨4, ⟨#[]⟩, 1, none, 0, 0⟩) from rfl) P2_4 (at_of_obj2 X3_4).1 (at_of_obj2 X3_4).2).mono ?_
                rintro e v5 ⟨k5, rfl, hr5, st5⟩
                have hB5 := hB4.trans (st5.mono hB4.size)
                have P5 := hr5.imp (ok' := (fun z => w.heap.size + 1 ≤ z)) (by rintro z (h | h) _ <;> omega)
                clear hr5
                refine hK _ _ ⟨gb_some (gb_below hB5), ?_⟩
                clear hK K
                have hz5 : w.heap.size + 1 ≤ v5.heap.size := by have := st5.size; omega
                have P2_5 := P2_4.below st5
                have X1_5 := (st5.block _ (Array.getElem?_eq_some_iff.1 X1_4).1).trans X1_4
                have X3_5 := (st5.block _ (Array.getElem?_eq_some_iff.1 X3_4).1).trans X3_4
                have X4_5 := (st5.block _ (Array.getElem?_eq_some_iff.1 X4).1).trans X4
                refine G_only 12 rfl (by kernel_rfl) ?_
                intro K hK
                go_simp
                go_at_call 9
                refine (fun2 (.app (.app (.bnd 3) (.bnd 1)) (.app (.app (.bnd 2) (.bnd 1)) (.bnd 0))) 4 (by omega) _ (fun z => w.heap.size + 1 ≤ z) k5 P5 ca.tm cb.tm ka kb _ 2 (HW.out.1.below hB5) (HW.out.2.1.below hB5) (at_of_obj2 X4_5).1 (at_of_obj2 X4_5).2).mono ?_
                rintro e v6 ⟨k6, rfl, hr6, st6⟩
                have hB6 := hB5.trans (st6.mono hB5.size)
                have P6 := hr6.imp (ok' := (fun z => w.heap.size + 1 ≤ z)) (by rintro z (h | h) _ <;> omega)
                clear hr6
                refine hK _ _ ⟨gb_some (gb_below hB6), ?_⟩
                clear hK K
                have hz6 : w.heap.size + 1 ≤ v6.heap.size := by have := st6.size; omega
                have P2_6 := P2_5.below st6
                have P5_6 := P5.below st6
                have X1_6 := (st6.block _ (Array.getElem?_eq_some_iff.1 X1_5).1).trans X1_5
                have X3_6 := (st6.block _ (Array.getElem?_eq_some_iff.1 X3_5).1).trans X3_5
                have X4_6 := (st6.block _ (Array.getElem?_eq_some_iff.1 X4_5).1).trans X4_5
                refine G_only 16 rfl (by kernel_rfl) ?_
                intro K hK
                have p7 := (hB6.block w.heap.size (by omega)).trans qR
                have f0 := (cells_of_block p7).1
                have f1 := (cells_of_block p7).2.1
                have f2 := (cells_of_block p7).2.2.1
                have f3 := (cells_of_block p7).2.2.2.1
                have f4 := (cells_of_block p7).2.2.2.2.1
                have f5 := (cells_of_block p7).2.2.2.2.2.1
                have f6 := (cells_of_block p7).2.2.2.2.2.2.1
                have f7 := (cells_of_block p7).2.2.2.2.2.2.2.1
                have f8 := (cells_of_block p7).2.2.2.2.2.2.2.2
                have fz := free_of_block p7
                go_simp
                obtain ⟨V, hV, n1, n2, hsz⟩ := nineE (.int .i64 k6.op) (.string k6.name) (.int .i64 k6.num) (.int .i64 0) (.string ⟨#[]⟩) (.int .i64 0) (.slice none 0 0) (.slice none 0 0) (.slice k6.A k6.n k6.c) p7
                rw [hV]
                refine hK _ _ ⟨tr_row (gb_some (gb_below hB6)) n2, ?_⟩
                clear hK K hV f0 f1 f2 f3 f4 f5 f6 f7 f8 fz
                refine G_last 17 rfl (by kernel_rfl) (by kernel_rfl) ?_
                intro K hK
                go_simp
                refine hK _ _ ?_
                clear hK K
                go_wp2
                refine end_rowt k6 (.int .i64 (IntKind.i64.wrap (ca.val + cb.val))) rfl (by rfl) (by rfl) rfl n1 ⟨.add ca cb, k6, (by rw [wrap_small _ (by omega) (by omega)]; simp [L.C.val]), ⟨H2.out.1, H3.out.1, by omega⟩, (by have := H2.out.2.1; have := H3.out.2.1; simp only [L.C.high]; omega), ?_, ?_, ?_⟩
                · exact (P6.grown n2 (by simp; omega)).imp (by omega)
                · exact (HW.out.2.2.1.below hB6).grown n2 (by simp; omega)
                · exact own_row (tr_row HW.out.2.2.2 (gb_some (gb_below hB6))) n2 (Nat.le_refl _)
            · skip
              intro K hK
              go_simp
              have st3 := alloc_below (v2) (Hd.obj2 ka kb)
              have X3 := new_at (v2) (Hd.obj2 ka kb) v2.heap.size rfl
              have hB3 := hB2.trans (st3.mono hB2.size)
              refine hK _ _ ⟨gb_some (gb_below hB3), ?_⟩
              clear hK K
              generalize hv3 : World.alloc (v2) _ = v3 at *
              clear hv3
              have hz3 : w.heap.size + 1 ≤ v3.heap.size := by have := st3.size; omega
              have P2_3 := P2.below st3
              have X1_3 := (st3.block _ (Array.getElem?_eq_some_iff.1 X1_2).1).trans X1_2
              refine G_only 7 rfl (by kernel_rfl) ?_
              intro K hK
              go_simp
              have st4 := alloc_below (v3) (Hd.obj2 ⟨4, ⟨#[]⟩, 1, none, 0, 0⟩ k2)
              have X4 := new_at (v3) (Hd.obj2 ⟨4, ⟨#[]⟩, 1, none, 0, 0⟩ k2) v3.heap.size rfl
              have hB4 := hB3.trans (st4.mono hB3.size)
              refine hK _ _ ⟨gb_some (gb_below hB4), ?_⟩
              clear hK K
              generalize hv4 : World.alloc (v3) _ = v4 at *
              clear hv4
              have hz4 : w.heap.size + 1 ≤ v4.heap.size := by have := st4.size; omega
              have P2_4 := P2_3.below st4
              have X1_4 := (st4.block _ (Array.getElem?_eq_some_iff.1 X1_3).1).trans X1_3
              have X3_4 := (st4.block _ (Array.getElem?_eq_some_iff.1 X3).1).trans X3
              refine G_only 8 rfl (by kernel_rfl) ?_
              intro K hK
              go_simp
              go_at_call 7
              refine (apps2 (.bnd 3) (.bnd 1) (.app (.app (.bnd 2) (.bnd 1)) (.bnd 0)) _ (fun z => w.heap.size + 1 ≤ z) (⟨4, ⟨#[]⟩, 3, none, 0, 0⟩ : Hd) (⟨4, ⟨#[]⟩, 1, none, 0, 0⟩ : Hd) k2 _ 2 (show Rep v4 (fun z => w.heap.size + 1 ≤ z) (.bnd 3) (⟨4, ⟨#[]⟩, 3, none, 0, 0⟩) from rfl) (show Rep v4 (fun z => w.heap.size + 1 ≤ z) (.bnd 1) (⟨4, ⟨#[]⟩, 1, none, 0, 0⟩) from rfl) P2_4 (at_of_obj2 X4).1 (at_of_obj2 X4).2).mono ?_
              rintro e v5 ⟨k5, rfl, hr5, st5⟩
              have hB5 := hB4.trans (st5.mono hB4.size)
              have P5 := hr5.imp (ok' := (fun z => w.heap.size + 1 ≤ z)) (by rintro z (h | h) _ <;> omega)
              clear hr5
              refine hK _ _ ⟨gb_some (gb_below hB5), ?_⟩
              clear hK K
              have hz5 : w.heap.size + 1 ≤ v5.heap.size := by have := st5.size; omega
              have P2_5 := P2_4.below st5
              have X1_5 := (st5.block _ (Array.getElem?_eq_some_iff.1 X1_4).1).trans X1_4
              have X3_5 := (st5.block _ (Array.getElem?_eq_some_iff.1 X3_4).1).trans X3_4
              have X4_5 := (st5.block _ (Array.getElem?_eq_some_iff.1 X4).1).trans X4
              refine G_only 12 rfl (by kernel_rfl) ?_
              intro K hK
              go_simp
              go_at_call 9
              refine (fun2 (.app (.app (.bnd 3) (.bnd 1)) (.app (.app (.bnd 2) (.bnd 1)) (.bnd 0))) 4 (by omega) _ (fun z => w.heap.size + 1 ≤ z) k5 P5 ca.tm cb.tm ka kb _ 2 (HW.out.1.below hB5) (HW.out.2.1.below hB5) (at_of_obj2 X3_5).1 (at_of_obj2 X3_5).2).mono ?_
              rintro e v6 ⟨k6, rfl, hr6, st6⟩
              have hB6 := hB5.trans (st6.mono hB5.size)
              have P6 := hr6.imp (ok' := (fun z => w.heap.size + 1 ≤ z)) (by rintro z (h | h) _ <;> omega)
              clear hr6
              refine hK _ _ ⟨gb_some (gb_below hB6), ?_⟩
              clear hK K
              have hz6 : w.heap.size + 1 ≤ v6.heap.size := by have := st6.size; omega
              have P2_6 := P2_5.below st6
              have P5_6 := P5.below st6
              have X1_6 := (st6.block _ (Array.getElem?_eq_some_iff.1 X1_5).1).trans X1_5
              have X3_6 := (st6.block _ (Array.getElem?_eq_some_iff.1 X3_5).1).trans X3_5
              have X4_6 := (st6.block _ (Array.getElem?_eq_some_iff.1 X4_5).1).trans X4_5
              refine G_only 16 rfl (by kernel_rfl) ?_
              intro K hK
              have p7 := (hB6.block w.heap.size (by omega)).trans qR
              have f0 := (cells_of_block p7).1
              have f1 := (cells_of_block p7).2.1
              have f2 := (cells_of_block p7).2.2.1
              have f3 := (cells_of_block p7).2.2.2.1
              have f4 := (cells_of_block p7).2.2.2.2.1
              have f5 := (cells_of_block p7).2.2.2.2.2.1
              have f6 := (cells_of_block p7).2.2.2.2.2.2.1
              have f7 := (cells_of_block p7).2.2.2.2.2.2.2.1
              have f8 := (cells_of_block p7).2.2.2.2.2.2.2.2
              have fz := free_of_block p7
              go_simp
              obtain ⟨V, hV, n1, n2, hsz⟩ := nineE (.int .i64 k6.op) (.string k6.name) (.int .i64 k6.num) (.int .i64 0) (.string ⟨#[]⟩) (.int .i64 0) (.slice none 0 0) (.slice none 0 0) (.slice k6.A k6.n k6.c) p7
              rw [hV]
              refine hK _ _ ⟨tr_row (gb_some (gb_below hB6)) n2, ?_⟩
              clear hK K hV f0 f1 f2 f3 f4 f5 f6 f7 f8 fz
              refine G_last 17 rfl (by kernel_rfl) (by kernel_rfl) ?_
              intro K hK
              go_simp
              refine hK _ _ ?_
              clear hK K
              go_wp2
              refine end_rowt k6 (.int .i64 (IntKind.i64.wrap (ca.val + cb.val))) rfl (by rfl) (by rfl) rfl n1 ⟨.add ca cb, k6, (by rw [wrap_small _ (by omega) (by omega)]; simp [L.C.val]), ⟨H2.out.1, H3.out.1, by omega⟩, (by have := H2.out.2.1; have := H3.out.2.1; simp only [L.C.high]; omega), ?_, ?_, ?_⟩
              · exact (P6.grown n2 (by simp; omega)).imp (by omega)
              · exact (HW.out.2.2.1.below hB6).grown n2 (by simp; omega)
              · exact own_row (tr_row HW.out.2.2.2 (gb_some (gb_below hB6))) n2 (Nat.le_refl _)
          · skip
            intro K hK
            go_simp
            have st2 := alloc_below (v1) (Hd.obj2 ka kb)
            have X2 := new_at (v1) (Hd.obj2 ka kb) v1.heap.size rfl
            have hB2 := hB1.trans (st2.mono hB1.size)
            refine hK _ _ ⟨gb_some (gb_below hB2), ?_⟩
            clear hK K
            generalize hv2 : World.alloc (v1) _ = v2 at *
            clear hv2
            have hz2 : w.heap.size + 1 ≤ v2.heap.size := by have := st2.size; omega
            have X1_2 := (st2.block _ (Array.getElem?_eq_some_iff.1 X1).1).trans X1
            refine G_only 6 rfl (by kernel_rfl) ?_
            intro K hK
            go_simp
            go_at_call 7
            refine (apps2 (.bnd 2) (.bnd 1) (.bnd 0) _ (fun z => w.heap.size + 1 ≤ z) (⟨4, ⟨#[]⟩, 2, none, 0, 0⟩ : Hd) (⟨4, ⟨#[]⟩, 1, none, 0, 0⟩ : Hd) (⟨4, ⟨#[]⟩, 0, none, 0, 0⟩ : Hd) _ 2 (show Rep v2 (fun z => w.heap.size + 1 ≤ z) (.bnd 2) (⟨4, ⟨#[]⟩, 2, none, 0, 0⟩) from rfl) (show Rep v2 (fun z => w.heap.size + 1 ≤ z) (.bnd 1) (⟨4, ⟨#[]⟩, 1, none, 0, 0⟩) from rfl) (show Rep v2 (fun z => w.heap.size + 1 ≤ z) (.bnd 0) (⟨4, ⟨#[]⟩, 0, none, 0, 0⟩) from rfl) (at_of_obj2 X1_2).1 (at_of_obj2 X1_2).2).mono ?_
            rintro e v3 ⟨k3, rfl, hr3, st3⟩
            have hB3 := hB2.trans (st3.mono hB2.size)
            have P3 := hr3.imp (ok' := (fun z => w.heap.size + 1 ≤ z)) (by rintro z (h | h) _ <;> omega)
            clear hr3
            refine hK _ _ ⟨gb_some (gb_below hB3), ?_⟩
            clear hK K
            have hz3 : w.heap.size + 1 ≤ v3.heap.size := by have := st3.size; omega
            have X1_3 := (st3.block _ (Array.getElem?_eq_some_iff.1 X1_2).1).trans X1_2
            have X2_3 := (st3.block _ (Array.getElem?_eq_some_iff.1 X2).1).trans X2
            refine G_only 7 rfl (by kernel_rfl) ?_
            intro K hK
            go_simp
            have st4 := alloc_below (v3) (Hd.obj2 ⟨4, ⟨#[]⟩, 1, none, 0, 0⟩ k3)
            have X4 := new_at (v3) (Hd.obj2 ⟨4, ⟨#[]⟩, 1, none, 0, 0⟩ k3) v3.heap.size rfl
            have hB4 := hB3.trans (st4.mono hB3.size)
            refine hK _ _ ⟨gb_some (gb_below hB4), ?_⟩
            clear hK K
            generalize hv4 : World.alloc (v3) _ = v4 at *
            clear hv4
            have hz4 : w.heap.size + 1 ≤ v4.heap.size := by have := st4.size; omega
            have P3_4 := P3.below st4
            have X1_4 := (st4.block _ (Array.getElem?_eq_some_iff.1 X1_3).1).trans X1_3
            have X2_4 := (st4.block _ (Array.getElem?_eq_some_iff.1 X2_3).1).trans X2_3
            refine G_only 8 rfl (by kernel_rfl) ?_
            intro K hK
            go_simp
            go_at_call 7
            refine (apps2 (.bnd 3) (.bnd 1) (.app (.app (.bnd 2) (.bnd 1)) (.bnd 0)) _ (fun z => w.heap.size + 1 ≤ z) (⟨4, ⟨#[]⟩, 3, none, 0, 0⟩ : Hd) (⟨4, ⟨#[]⟩, 1, none, 0, 0⟩ : Hd) k3 _ 2 (show Rep v4 (fun z => w.heap.size + 1 ≤ z) (.bnd 3) (⟨4, ⟨#[]⟩, 3, none, 0, 0⟩) from rfl) (show Rep v4 (fun z => w.heap.size + 1 ≤ z) (.bnd 1) (⟨4, ⟨#[]⟩, 1, none, 0, 0⟩) from rfl) P3_4 (at_of_obj2 X4).1 (at_of_obj2 X4).2).mono ?_
            rintro e v5 ⟨k5, rfl, hr5, st5⟩
            have hB5 := hB4.trans (st5.mono hB4.size)
            have P5 := hr5.imp (ok' := (fun z => w.heap.size + 1 ≤ z)) (by rintro z (h | h) _ <;> omega)
            clear hr5
            refine hK _ _ ⟨gb_some (gb_below hB5), ?_⟩
            clear hK K
            have hz5 : w.heap.size + 1 ≤ v5.heap.size := by have := st5.size; omega
            have P3_5 := P3_4.below st5
            have X1_5 := (st5.block _ (Array.getElem?_eq_some_iff.1 X1_4).1).trans X1_4
            have X2_5 := (st5.block _ (Array.getElem?_eq_some_iff.1 X2_4).1).trans X2_4
            have X4_5 := (st5.block _ (Array.getElem?_eq_some_iff.1 X4).1).trans X4
            refine G_only 12 rfl (by kernel_rfl) ?_
            intro K hK
            go_simp
            go_at_call 9
            refine (fun2 (.app (.app (.bnd 3) (.bnd 1)) (.app (.app (.bnd 2) (.bnd 1)) (.bnd 0))) 4 (by omega) _ (fun z => w.heap.size + 1 ≤ z) k5 P5 ca.tm cb.tm ka kb _ 2 (HW.out.1.below hB5) (HW.out.2.1.below hB5) (at_of_obj2 X2_5).1 (at_of_obj2 X2_5).2).mono ?_
            rintro e v6 ⟨k6, rfl, hr6, st6⟩
            have hB6 := hB5.trans (st6.mono hB5.size)
            have P6 := hr6.imp (ok' := (fun z => w.heap.size + 1 ≤ z)) (by rintro z (h | h) _ <;> omega)
            clear hr6
            refine hK _ _ ⟨gb_some (gb_below hB6), ?_⟩
            clear hK K
            have hz6 : w.heap.size + 1 ≤ v6.heap.size := by have := st6.size; omega
            have P3_6 := P3_5.below st6
            have P5_6 := P5.below st6
            have X1_6 := (st6.block _ (Array.getElem?_eq_some_iff.1 X1_5).1).trans X1_5
            have X2_6 := (st6.block _ (Array.getElem?_eq_some_iff.1 X2_5).1).trans X2_5
            have X4_6 := (st6.block _ (Array.getElem?_eq_some_iff.1 X4_5).1).trans X4_5
            refine G_only 16 rfl (by kernel_rfl) ?_
            intro K hK
            have p7 := (hB6.block w.heap.size (by omega)).trans qR
            have f0 := (cells_of_block p7).1
            have f1 := (cells_of_block p7).2.1
            have f2 := (cells_of_block p7).2.2.1
            have f3 := (cells_of_block p7).2.2.2.1
            have f4 := (cells_of_block p7).2.2.2.2.1
            have f5 := (cells_of_block p7).2.2.2.2.2.1
            have f6 := (cells_of_block p7).2.2.2.2.2.2.1
            have f7 := (cells_of_block p7).2.2.2.2.2.2.2.1
            have f8 := (cells_of_block p7).2.2.2.2.2.2.2.2
            have fz := free_of_block p7
            go_simp
            obtain ⟨V, hV, n1, n2, hsz⟩ := nineE (.int .i64 k6.op) (.string k6.name) (.int .i64 k6.num) (.int .i64 0) (.string ⟨#[]⟩) (.int .i64 0) (.slice none 0 0) (.slice none 0 0) (.slice k6.A k6.n k6.c) p7
            rw [hV]
            refine hK _ _ ⟨tr_row (gb_some (gb_below hB6)) n2, ?_⟩
            clear hK K hV f0 f1 f2 f3 f4 f5 f6 f7 f8 fz
            refine G_last 17 rfl (by kernel_rfl) (by kernel_rfl) ?_
            intro K hK
            go_simp
            refine hK _ _ ?_
            clear hK K
            go_wp2
            refine end_rowt k6 (.int .i64 (IntKind.i64.wrap (ca.val + cb.val))) rfl (by rfl) (by rfl) rfl n1 ⟨.add ca cb, k6, (by rw [wrap_small _ (by omega) (by omega)]; simp [L.C.val]), ⟨H2.out.1, H3.out.1, by omega⟩, (by have := H2.out.2.1; have := H3.out.2.1; simp only [L.C.high]; omega), ?_, ?_, ?_⟩
            · exact (P6.grown n2 (by simp; omega)).imp (by omega)
            · exact (HW.out.2.2.1.below hB6).grown n2 (by simp; omega)
            · exact own_row (tr_row HW.out.2.2.2 (gb_some (gb_below hB6))) n2 (Nat.le_refl _)
        · skip
          intro K hK
          go_simp
          have st1 := alloc_below (v0) (Hd.obj2 ka kb)
          have X1 := new_at (v0) (Hd.obj2 ka kb) v0.heap.size rfl
          have hB1 := hB0.trans (st1.mono hB0.size)
          refine hK _ _ ⟨gb_some (gb_below hB1), ?_⟩
          clear hK K
          generalize hv1 : World.alloc (v0) _ = v1 at *
          clear hv1
          have hz1 : w.heap.size + 1 ≤ v1.heap.size := by have := st1.size; omega
          refine G_only 5 rfl (by kernel_rfl) ?_
          intro K hK
          go_simp
          have st2 := alloc_below (v1) (Hd.obj2 ⟨4, ⟨#[]⟩, 1, none, 0, 0⟩ ⟨4, ⟨#[]⟩, 0, none, 0, 0⟩)
          have X2 := new_at (v1) (Hd.obj2 ⟨4, ⟨#[]⟩, 1, none, 0, 0⟩ ⟨4, ⟨#[]⟩, 0, none, 0, 0⟩) v1.heap.size rfl
          have hB2 := hB1.trans (st2.mono hB1.size)
          refine hK _ _ ⟨gb_some (gb_below hB2), ?_⟩
          clear hK K
          generalize hv2 : World.alloc (v1) _ = v2 at *
          clear hv2
          have hz2 : w.heap.size + 1 ≤ v2.heap.size := by have := st2.size; omega
          have X1_2 := (st2.block _ (Array.getElem?_eq_some_iff.1 X1).1).trans X1
          refine G_only 6 rfl (by kernel_rfl) ?_
          intro K hK
          go_simp
          go_at_call 7
          refine (apps2 (.bnd 2) (.bnd 1) (.bnd 0) _ (fun z => w.heap.size + 1 ≤ z) (⟨4, ⟨#[]⟩, 2, none, 0, 0⟩ : Hd) (⟨4, ⟨#[]⟩, 1, none, 0, 0⟩ : Hd) (⟨4, ⟨#[]⟩, 0, none, 0, 0⟩ : Hd) _ 2 (show Rep v2 (fun z => w.heap.size + 1 ≤ z) (.bnd 2) (⟨4, ⟨#[]⟩, 2, none, 0, 0⟩) from rfl) (show Rep v2 (fun z => w.heap.size + 1 ≤ z) (.bnd 1) (⟨4, ⟨#[]⟩, 1, none, 0, 0⟩) from rfl) (show Rep v2 (fun z => w.heap.size + 1 ≤ z) (.bnd 0) (⟨4, ⟨#[]⟩, 0, none, 0, 0⟩) from rfl) (at_of_obj2 X2).1 (at_of_obj2 X2).2).mono ?_
          rintro e v3 ⟨k3, rfl, hr3, st3⟩
          have hB3 := hB2.trans (st3.mono hB2.size)
          have P3 := hr3.imp (ok' := (fun z => w.heap.size + 1 ≤ z)) (by rintro z (h | h) _ <;> omega)
          clear hr3
          refine hK _ _ ⟨gb_some (gb_below hB3), ?_⟩
          clear hK K
          have hz3 : w.heap.size + 1 ≤ v3.heap.size := by have := st3.size; omega
          have X1_3 := (st3.block _ (Array.getElem?_eq_some_iff.1 X1_2).1).trans X1_2
          have X2_3 := (st3.block _ (Array.getElem?_eq_some_iff.1 X2).1).trans X2
          refine G_only 7 rfl (by kernel_rfl) ?_
          intro K hK
          go_simp
          have st4 := alloc_below (v3) (Hd.obj2 ⟨4, ⟨#[]⟩, 1, none, 0, 0⟩ k3)
          have X4 := new_at (v3) (Hd.obj2 ⟨4, ⟨#[]⟩, 1, none, 0, 0⟩ k3) v3.heap.size rfl
          have hB4 := hB3.trans (st4.mono hB3.size)
          refine hK _ _ ⟨gb_some (gb_below hB4), ?_⟩
          clear hK K
          generalize hv4 : World.alloc (v3) _ = v4 at *
          clear hv4
          have hz4 : w.heap.size + 1 ≤ v4.heap.size := by have := st4.size; omega
          have P3_4 := P3.below st4
          have X1_4 := (st4.block _ (Array.getElem?_eq_some_iff.1 X1_3).1).trans X1_3
          have X2_4 := (st4.block _ (Array.getElem?_eq_some_iff.1 X2_3).1).trans X2_3
          refine G_only 8 rfl (by kernel_rfl) ?_
          intro K hK
          go_simp
          go_at_call 7
          refine (apps2 (.bnd 3) (.bnd 1) (.app (.app (.bnd 2) (.bnd 1)) (.bnd 0)) _ (fun z => w.heap.size + 1 ≤ z) (⟨4, ⟨#[]⟩, 3, none, 0, 0⟩ : Hd) (⟨4, ⟨#[]⟩, 1, none, 0, 0⟩ : Hd) k3 _ 2 (show Rep v4 (fun z => w.heap.size + 1 ≤ z) (.bnd 3) (⟨4, ⟨#[]⟩, 3, none, 0, 0⟩) from rfl) (show Rep v4 (fun z => w.heap.size + 1 ≤ z) (.bnd 1) (⟨4, ⟨#[]⟩, 1, none, 0, 0⟩) from rfl) P3_4 (at_of_obj2 X4).1 (at_of_obj2 X4).2).mono ?_
          rintro e v5 ⟨k5, rfl, hr5, st5⟩
          have hB5 := hB4.trans (st5.mono hB4.size)
          have P5 := hr5.imp (ok' := (fun z => w.heap.size + 1 ≤ z)) (by rintro z (h | h) _ <;> omega)
          clear hr5
          refine hK _ _ ⟨gb_some (gb_below hB5), ?_⟩
          clear hK K
          have hz5 : w.heap.size + 1 ≤ v5.heap.size := by have := st5.size; omega
          have P3_5 := P3_4.below st5
          have X1_5 := (st5.block _ (Array.getElem?_eq_some_iff.1 X1_4).1).trans X1_4
          have X2_5 := (st5.block _ (Array.getElem?_eq_some_iff.1 X2_4).1).trans X2_4
          have X4_5 := (st5.block _ (Array.getElem?_eq_some_iff.1 X4).1).trans X4
          refine G_only 12 rfl (by kernel_rfl) ?_
          intro K hK
          go_simp
          go_at_call 9
          refine (fun2 (.app (.app (.bnd 3) (.bnd 1)) (.app (.app (.bnd 2) (.bnd 1)) (.bnd 0))) 4 (by omega) _ (fun z => w.heap.size + 1 ≤ z) k5 P5 ca.tm cb.tm ka kb _ 2 (HW.out.1.below hB5) (HW.out.2.1.below hB5) (at_of_obj2 X1_5).1 (at_of_obj2 X1_5).2).mono ?_
          rintro e v6 ⟨k6, rfl, hr6, st6⟩
          have hB6 := hB5.trans (st6.mono hB5.size)
          have P6 := hr6.imp (ok' := (fun z => w.heap.size + 1 ≤ z)) (by rintro z (h | h) _ <;> omega)
          clear hr6
          refine hK _ _ ⟨gb_some (gb_below hB6), ?_⟩
          clear hK K
          have hz6 : w.heap.size + 1 ≤ v6.heap.size := by have := st6.size; omega
          have P3_6 := P3_5.below st6
          have P5_6 := P5.below st6
          have X1_6 := (st6.block _ (Array.getElem?_eq_some_iff.1 X1_5).1).trans X1_5
          have X2_6 := (st6.block _ (Array.getElem?_eq_some_iff.1 X2_5).1).trans X2_5
          have X4_6 := (st6.block _ (Array.getElem?_eq_some_iff.1 X4_5).1).trans X4_5
          refine G_only 16 rfl (by kernel_rfl) ?_
          intro K hK
          have p7 := (hB6.block w.heap.size (by omega)).trans qR
          have f0 := (cells_of_block p7).1
          have f1 := (cells_of_block p7).2.1
          have f2 := (cells_of_block p7).2.2.1
          have f3 := (cells_of_block p7).2.2.2.1
          have f4 := (cells_of_block p7).2.2.2.2.1
          have f5 := (cells_of_block p7).2.2.2.2.2.1
          have f6 := (cells_of_block p7).2.2.2.2.2.2.1
          have f7 := (cells_of_block p7).2.2.2.2.2.2.2.1
          have f8 := (cells_of_block p7).2.2.2.2.2.2.2.2
          have fz := free_of_block p7
          go_simp
          obtain ⟨V, hV, n1, n2, hsz⟩ := nineE (.int .i64 k6.op) (.string k6.name) (.int .i64 k6.num) (.int .i64 0) (.string ⟨#[]⟩) (.int .i64 0) (.slice none 0 0) (.slice none 0 0) (.slice k6.A k6.n k6.c) p7
          rw [hV]
          refine hK _ _ ⟨tr_row (gb_some (gb_below hB6)) n2, ?_⟩
          clear hK K hV f0 f1 f2 f3 f4 f5 f6 f7 f8 fz
          refine G_last 17 rfl (by kernel_rfl) (by kernel_rfl) ?_
          intro K hK
          go_simp
          refine hK _ _ ?_
          clear hK K
          go_wp2
          refine end_rowt k6 (.int .i64 (IntKind.i64.wrap (ca.val + cb.val))) rfl (by rfl) (by rfl) rfl n1 ⟨.add ca cb, k6, (by rw [wrap_small _ (by omega) (by omega)]; simp [L.C.val]), ⟨H2.out.1, H3.out.1, by omega⟩, (by have := H2.out.2.1; have := H3.out.2.1; simp only [L.C.high]; omega), ?_, ?_, ?_⟩
          · exact (P6.grown n2 (by simp; omega)).imp (by omega)
          · exact (HW.out.2.2.1.below hB6).grown n2 (by simp; omega)
          · exact own_row (tr_row HW.out.2.2.2 (gb_some (gb_below hB6))) n2 (Nat.le_refl _)
      · skip
        obtain ⟨la1, la2, la3, la4, _, _⟩ := lts (show w.heap.size < w7.heap.size by omega)
        obtain ⟨lb1, lb2, lb3, lb4, _, _⟩ := lts (show w3.heap.size < w7.heap.size by omega)
        have la0 : w.heap.size < w7.heap.size := by omega
        have lb0 : w3.heap.size < w7.heap.size := by omega
        have f0 := (cells_of_block H7.out.2.1).1
        have f1 := (cells_of_block H7.out.2.1).2.1
        have f2 := (cells_of_block H7.out.2.1).2.2.1
        have f3 := (cells_of_block H7.out.2.1).2.2.2.1
        have f4 := (cells_of_block H7.out.2.1).2.2.2.2.1
        have f5 := (cells_of_block H7.out.2.1).2.2.2.2.2.1
        have f6 := (cells_of_block H7.out.2.1).2.2.2.2.2.2.1
        have f7 := (cells_of_block H7.out.2.1).2.2.2.2.2.2.2.1
        have f8 := (cells_of_block H7.out.2.1).2.2.2.2.2.2.2.2
        have e0 := (cells_of_block H7.out.2.2.2).1
        have e1 := (cells_of_block H7.out.2.2.2).2.1
        have e2 := (cells_of_block H7.out.2.2.2).2.2.1
        have e3 := (cells_of_block H7.out.2.2.2).2.2.2.1
        have e4 := (cells_of_block H7.out.2.2.2).2.2.2.2.1
        have e5 := (cells_of_block H7.out.2.2.2).2.2.2.2.2.1
        have e6 := (cells_of_block H7.out.2.2.2).2.2.2.2.2.2.1
        have e7 := (cells_of_block H7.out.2.2.2).2.2.2.2.2.2.2.1
        have e8 := (cells_of_block H7.out.2.2.2).2.2.2.2.2.2.2.2
        have fz := free_of_block H7.out.2.1
        go_wp2
        have hB4 := below4 w7 (Hd.obj ⟨4, ⟨#[]⟩, 0, none, 0, 0⟩) (Hd.obj ⟨4, ⟨#[]⟩, 1, none, 0, 0⟩) (Hd.obj ⟨4, ⟨#[]⟩, 2, none, 0, 0⟩) (Hd.obj ⟨4, ⟨#[]⟩, 3, none, 0, 0⟩)
        obtain ⟨V, hV, n1, n2, hsz⟩ := nineE (.int .i64 kb.op) (.string kb.name) (.int .i64 kb.num) (.int .i64 0) (.string ⟨#[]⟩) (.int .i64 0) (.slice none 0 0) (.slice none 0 0) (.slice kb.A kb.n kb.c) H7.out.2.1
        rw [hV]
        clear hV f0 f1 f2 f3 f4 f5 f6 f7 f8 fz e0 e1 e2 e3 e4 e5 e6 e7 e8
        have hb4 := below4 V (Hd.obj ⟨4, ⟨#[]⟩, 0, none, 0, 0⟩) (Hd.obj ⟨4, ⟨#[]⟩, 1, none, 0, 0⟩) (Hd.obj ⟨4, ⟨#[]⟩, 2, none, 0, 0⟩) (Hd.obj ⟨4, ⟨#[]⟩, 3, none, 0, 0⟩)
        refine end_rowt kb (.int .i64 cb.val) rfl (by rfl) (by rfl) rfl ((hb4.block _ (by omega)).trans n1) ⟨cb, kb, rfl, H3.out.1, by have := H3.out.2.1; omega, ?_, ?_, ?_⟩
        · exact ((((H3.out.2.2.1.below (alloc_below w3 kb.obj)).below H7.out.1).grown n2 (by simp; omega)).below hb4).imp (by simp; omega)
        · exact (((((H3.out.2.2.2.1.below (alloc_below w3 kb.obj)).below H7.out.1)).grown n2 (by simp; omega))).below hb4
        · exact tr_row (own_row (tr_row (tr_row H1.out.2.2 H2.out.2.2.2.2.1) (tr_row (gb_some (gb_alloc w2 ka.obj)) (tr_row H3.out.2.2.2.2.1 (gb_some (gb_trans (gb_alloc w3 kb.obj) (gb_below H7.out.1)))))) n2 (Nat.le_refl _)) (gb_some (gb_below hb4))
    · by_cases q3 : ((r : Int) == 3) = true
      · have hxy : ca.val * cb.val ≤ 1600 := Nat.mul_le_mul va vb
        have hxz : (ca.val : Int) * cb.val ≤ 1600 ∧ 0 ≤ (ca.val : Int) * cb.val := by rw [← Int.natCast_mul]; omega
        have hw : wrap64 ((ca.val : Int) * cb.val) = ca.val * cb.val := by unfold wrap64; omega
        have HX := Lib.hid (And.intro hxy hxz)
        have r4 : ((r : Int) == 4) = false := by simp at q3 ⊢; omega
        have r5 : ((r : Int) == 5) = false := by simp at q3 ⊢; omega
        clear hxy hxz va vb
        by_cases k40 : (ca.val : Int) * cb.val ≤ 40
        · go_wp2_with fail
          refine gen4 ?_
          intro W hbW hsW g0 g1 g2 g3
          have qR := (hbW.block w.heap.size (by omega)).trans H7.out.2.1
          have qa := (hbW.block w2.heap.size (by omega)).trans H7.out.2.2.1
          have qb := (hbW.block w3.heap.size (by omega)).trans H7.out.2.2.2
          have RA : Rep W (fun z => w.heap.size + 1 ≤ z) ca.tm ka := ((((((H2.out.2.2.1.below (alloc_below w2 ka.obj)).grown H3.out.2.2.2.2.1 (by simp; omega)).below (alloc_below w3 kb.obj)).below H7.out.1).below hbW)).imp (by omega)
          have RB : Rep W (fun z => w.heap.size + 1 ≤ z) cb.tm kb := (((H3.out.2.2.1.below (alloc_below w3 kb.obj)).below H7.out.1).below hbW).imp (by simp; omega)
          have TW : Tile W g := ((H3.out.2.2.2.1.below (alloc_below w3 kb.obj)).below H7.out.1).below hbW
          have GW : w.grownBy W (some g) := tr_row (tr_row H1.out.2.2 H2.out.2.2.2.2.1) (tr_row (gb_some (gb_alloc w2 ka.obj)) (tr_row H3.out.2.2.2.2.1 (gb_some (gb_trans (gb_alloc w3 kb.obj) (gb_trans (gb_below H7.out.1) (gb_below hbW))))))
          have hsW1 : w7.heap.size + 4 ≤ W.heap.size := by omega
          clear hsW
          have HW := Lib.hid (And.intro RA (And.intro RB (And.intro TW GW)))
          clear RA RB TW GW hbW
          refine G_begin (fun w' => W.grownBy w' (some w.heap.size)) (by kernel_rfl) ?_
          have hB0 : Below W.heap.size W W.drew := (Below.refl _ _).drew
          generalize hv0 : World.drew W = v0 at *
          clear hv0
          have hz0 : w.heap.size + 1 ≤ v0.heap.size := by have := hB0.size; omega
          refine G_take 0 15 rfl (by kernel_rfl) (fun _ _ _ h => h) (gb_some (gb_below hB0)) (v := ?_) (.inl ⟨by rfl, ?_⟩) ?_
          rotate_left
          · intro w' hw'; obtain ⟨e0, e1, e2, e3, e4, e5, e6, e7, e8⟩ := cells_of_block ((hw'.block (w7.heap.size + 1 + 1) (by omega) (by simp; omega)).trans g2); go_simp; try with_reducible rfl
          refine G_take 1 15 rfl (by kernel_rfl) (fun _ _ _ h => h) (gb_some (gb_below hB0)) (v := ?_) (.inl ⟨by rfl, ?_⟩) ?_
          rotate_left
          · intro w' hw'; obtain ⟨e0, e1, e2, e3, e4, e5, e6, e7, e8⟩ := cells_of_block ((hw'.block (w7.heap.size + 1) (by omega) (by simp; omega)).trans g1); go_simp; try with_reducible rfl
          refine G_take 2 15 rfl (by kernel_rfl) (fun _ _ _ h => h) (gb_some (gb_below hB0)) (v := ?_) (.inl ⟨by rfl, ?_⟩) ?_
          rotate_left
          · intro w' hw'; obtain ⟨e0, e1, e2, e3, e4, e5, e6, e7, e8⟩ := cells_of_block ((hw'.block (w7.heap.size) (by omega) (by simp; omega)).trans g0); go_simp; try with_reducible rfl
          refine G_take 7 15 rfl (by kernel_rfl) (fun _ _ _ h => h) (gb_some (gb_below hB0)) (v := ?_) (.inl ⟨by rfl, ?_⟩) ?_
          rotate_left
          · intro w' hw'; obtain ⟨e0, e1, e2, e3, e4, e5, e6, e7, e8⟩ := cells_of_block ((hw'.block (w2.heap.size) (by omega) (by simp; omega)).trans qa); go_simp; try with_reducible rfl
          refine G_take 8 15 rfl (by kernel_rfl) (fun _ _ _ h => h) (gb_some (gb_below hB0)) (v := ?_) (.inl ⟨by rfl, ?_⟩) ?_
          rotate_left
          · intro w' hw'; obtain ⟨e0, e1, e2, e3, e4, e5, e6, e7, e8⟩ := cells_of_block ((hw'.block (w3.heap.size) (by omega) (by simp; omega)).trans qb); go_simp; try with_reducible rfl
          refine G_take 11 15 rfl (by kernel_rfl) (fun _ _ _ h => h) (gb_some (gb_below hB0)) (v := ?_) (.inl ⟨by rfl, ?_⟩) ?_
          rotate_left
          · intro w' hw'; go_simp; try with_reducible rfl
          refine G_take 12 15 rfl (by kernel_rfl) (fun _ _ _ h => h) (gb_some (gb_below hB0)) (v := ?_) (.inl ⟨by rfl, ?_⟩) ?_
          rotate_left
          · intro w' hw'; go_simp; try with_reducible rfl
          refine G_take 13 15 rfl (by kernel_rfl) (fun _ _ _ h => h) (gb_some (gb_below hB0)) (v := ?_) (.inl ⟨by rfl, ?_⟩) ?_
          rotate_left
          · intro w' hw'; go_simp; try with_reducible rfl
          refine G_two 3 9 rfl rfl (by kernel_rfl) ?_ ?_
          · skip
            intro K hK
            go_simp
            have st1 := alloc_below (v0) (Hd.obj ⟨4, ⟨#[]⟩, 0, none, 0, 0⟩)
            have X1 := new_at (v0) (Hd.obj ⟨4, ⟨#[]⟩, 0, none, 0, 0⟩) v0.heap.size rfl
            have hB1 := hB0.trans (st1.mono hB0.size)
            refine hK _ _ ⟨gb_some (gb_below hB1), ?_⟩
            clear hK K
            generalize hv1 : World.alloc (v0) _ = v1 at *
            clear hv1
            have hz1 : w.heap.size + 1 ≤ v1.heap.size := by have := st1.size; omega
            refine G_two 4 9 rfl rfl (by kernel_rfl) ?_ ?_
            · skip
              intro K hK
              go_simp
              go_at_call 7
              refine (apps1 (.bnd 1) (.bnd 0) _ (fun z => w.heap.size + 1 ≤ z) (⟨4, ⟨#[]⟩, 1, none, 0, 0⟩ : Hd) (⟨4, ⟨#[]⟩, 0, none, 0, 0⟩ : Hd) _ 1 (show Rep v1 (fun z => w.heap.size + 1 ≤ z) (.bnd 1) (⟨4, ⟨#[]⟩, 1, none, 0, 0⟩) from rfl) (show Rep v1 (fun z => w.heap.size + 1 ≤ z) (.bnd 0) (⟨4, ⟨#[]⟩, 0, none, 0, 0⟩) from rfl) (at0_of_block X1)).mono ?_
              rintro e v2 ⟨k2, rfl, hr2, st2⟩
              have hB2 := hB1.trans (st2.mono hB1.size)
              have P2 := hr2.imp (ok' := (fun z => w.heap.size + 1 ≤ z)) (by rintro z (h | h) _ <;> omega)
              clear hr2
              refine hK _ _ ⟨gb_some (gb_below hB2), ?_⟩
              clear hK K
              have hz2 : w.heap.size + 1 ≤ v2.heap.size := by have := st2.size; omega
              have X1_2 := (st2.block _ (Array.getElem?_eq_some_iff.1 X1).1).trans X1
              refine G_two 5 9 rfl rfl (by kernel_rfl) ?_ ?_
              · skip
                intro K hK
                go_simp
                have st3 := alloc_below (v2) (Hd.obj k2)
                have X3 := new_at (v2) (Hd.obj k2) v2.heap.size rfl
                have hB3 := hB2.trans (st3.mono hB2.size)
                refine hK _ _ ⟨gb_some (gb_below hB3), ?_⟩
                clear hK K
                generalize hv3 : World.alloc (v2) _ = v3 at *
                clear hv3
                have hz3 : w.heap.size + 1 ≤ v3.heap.size := by have := st3.size; omega
                have P2_3 := P2.below st3
                have X1_3 := (st3.block _ (Array.getElem?_eq_some_iff.1 X1_2).1).trans X1_2
                refine G_two 6 9 rfl rfl (by kernel_rfl) ?_ ?_
                · skip
                  intro K hK
                  go_simp
                  go_at_call 7
                  refine (apps1 (.bnd 2) (.app (.bnd 1) (.bnd 0)) _ (fun z => w.heap.size + 1 ≤ z) (⟨4, ⟨#[]⟩, 2, none, 0, 0⟩ : Hd) k2 _ 1 (show Rep v3 (fun z => w.heap.size + 1 ≤ z) (.bnd 2) (⟨4, ⟨#[]⟩, 2, none, 0, 0⟩) from rfl) P2_3 (at0_of_block X3)).mono ?_
                  rintro e v4 ⟨k4, rfl, hr4, st4⟩
                  have hB4 := hB3.trans (st4.mono hB3.size)
                  have P4 := hr4.imp (ok' := (fun z => w.heap.size + 1 ≤ z)) (by rintro z (h | h) _ <;> omega)
                  clear hr4
                  refine hK _ _ ⟨gb_some (gb_below hB4), ?_⟩
                  clear hK K
                  have hz4 : w.heap.size + 1 ≤ v4.heap.size := by have := st4.size; omega
                  have P2_4 := P2_3.below st4
                  have X1_4 := (st4.block _ (Array.getElem?_eq_some_iff.1 X1_3).1).trans X1_3
                  have X3_4 := (st4.block _ (Array.getElem?_eq_some_iff.1 X3).1).trans X3
                  refine G_only 9 rfl (by kernel_rfl) ?_
                  intro K hK
                  go_simp
                  have st5 := alloc_below (v4) (Hd.obj2 ka kb)
                  have X5 := new_at (v4) (Hd.obj2 ka kb) v4.heap.size rfl
                  have hB5 := hB4.trans (st5.mono hB4.size)
                  refine hK _ _ ⟨gb_some (gb_below hB5), ?_⟩
                  clear hK K
                  generalize hv5 : World.alloc (v4) _ = v5 at *
                  clear hv5
                  have hz5 : w.heap.size + 1 ≤ v5.heap.size := by have := st5.size; omega
                  have P2_5 := P2_4.below st5
                  have P4_5 := P4.below st5
                  have X1_5 := (st5.block _ (Array.getElem?_eq_some_iff.1 X1_4).1).trans X1_4
                  have X3_5 := (st5.block _ (Array.getElem?_eq_some_iff.1 X3_4).1).trans X3_4
                  refine G_only 10 rfl (by kernel_rfl) ?_
                  intro K hK
                  go_simp
                  go_at_call 9
                  refine (fun2 (.app (.bnd 2) (.app (.bnd 1) (.bnd 0))) 3 (by omega) _ (fun z => w.heap.size + 1 ≤ z) k4 P4_5 ca.tm cb.tm ka kb _ 2 (HW.out.1.below hB5) (HW.out.2.1.below hB5) (at_of_obj2 X5).1 (at_of_obj2 X5).2).mono ?_
                  rintro e v6 ⟨k6, rfl, hr6, st6⟩
                  have hB6 := hB5.trans (st6.mono hB5.size)
                  have P6 := hr6.imp (ok' := (fun z => w.heap.size + 1 ≤ z)) (by rintro z (h | h) _ <;> omega)
                  clear hr6
                  refine hK _ _ ⟨gb_some (gb_below hB6), ?_⟩
                  clear hK K
                  have hz6 : w.heap.size + 1 ≤ v6.heap.size := by have := st6.size; omega
                  have P2_6 := P2_5.below st6
                  have P4_6 := P4_5.below st6
                  have X1_6 := (st6.block _ (Array.getElem?_eq_some_iff.1 X1_5).1).trans X1_5
                  have X3_6 := (st6.block _ (Array.getElem?_eq_some_iff.1 X3_5).1).trans X3_5
                  have X5_6 := (st6.block _ (Array.getElem?_eq_some_iff.1 X5).1).trans X5
                  refine G_only 14 rfl (by kernel_rfl) ?_
                  intro K hK
                  have p7 := (hB6.block w.heap.size (by omega)).trans qR
                  have f0 := (cells_of_block p7).1
                  have f1 := (cells_of_block p7).2.1
                  have f2 := (cells_of_block p7).2.2.1
                  have f3 := (cells_of_block p7).2.2.2.1
                  have f4 := (cells_of_block p7).2.2.2.2.1
                  have f5 := (cells_of_block p7).2.2.2.2.2.1
                  have f6 := (cells_of_block p7).2.2.2.2.2.2.1
                  have f7 := (cells_of_block p7).2.2.2.2.2.2.2.1
                  have f8 := (cells_of_block p7).2.2.2.2.2.2.2.2
                  have fz := free_of_block p7
                  go_simp
                  obtain ⟨V, hV, n1, n2, hsz⟩ := nineE (.int .i64 k6.op) (.string k6.name) (.int .i64 k6.num) (.int .i64 0) (.string ⟨#[]⟩) (.int .i64 0) (.slice none 0 0) (.slice none 0 0) (.slice k6.A k6.n k6.c) p7
                  rw [hV]
                  refine hK _ _ ⟨tr_row (gb_some (gb_below hB6)) n2, ?_⟩
                  clear hK K hV f0 f1 f2 f3 f4 f5 f6 f7 f8 fz
                  refine G_last 15 rfl (by kernel_rfl) (by kernel_rfl) ?_
                  intro K hK
                  go_simp
                  refine hK _ _ ?_
                  clear hK K
                  go_wp2
                  refine end_rowt k6 (.int .i64 (IntKind.i64.wrap (ca.val * cb.val))) rfl (by rfl) (by rfl) rfl n1 ⟨.mul ca cb, k6, (by rw [wrap_small _ HX.out.2.2 (by omega)]; simp [L.C.val]), ⟨H2.out.1, H3.out.1, by rw [← Int.natCast_mul] at k40; omega⟩, (by have := H2.out.2.1; have := H3.out.2.1; simp only [L.C.high]; omega), ?_, ?_, ?_⟩
                  · exact (P6.grown n2 (by simp; omega)).imp (by omega)
                  · exact (HW.out.2.2.1.below hB6).grown n2 (by simp; omega)
                  · exact own_row (tr_row HW.out.2.2.2 (gb_some (gb_below hB6))) n2 (Nat.le_refl _)
                · skip
                  intro K hK
                  go_simp
                  have st4 := alloc_below (v3) (Hd.obj2 ka kb)
                  have X4 := new_at (v3) (Hd.obj2 ka kb) v3.heap.size rfl
                  have hB4 := hB3.trans (st4.mono hB3.size)
                  refine hK _ _ ⟨gb_some (gb_below hB4), ?_⟩
                  clear hK K
                  generalize hv4 : World.alloc (v3) _ = v4 at *
                  clear hv4
                  have hz4 : w.heap.size + 1 ≤ v4.heap.size := by have := st4.size; omega
                  have P2_4 := P2_3.below st4
                  have X1_4 := (st4.block _ (Array.getElem?_eq_some_iff.1 X1_3).1).trans X1_3
                  have X3_4 := (st4.block _ (Array.getElem?_eq_some_iff.1 X3).1).trans X3
                  refine G_only 6 rfl (by kernel_rfl) ?_
                  intro K hK
                  go_simp
                  go_at_call 7
                  refine (apps1 (.bnd 2) (.app (.bnd 1) (.bnd 0)) _ (fun z => w.heap.size + 1 ≤ z) (⟨4, ⟨#[]⟩, 2, none, 0, 0⟩ : Hd) k2 _ 1 (show Rep v4 (fun z => w.heap.size + 1 ≤ z) (.bnd 2) (⟨4, ⟨#[]⟩, 2, none, 0, 0⟩) from rfl) P2_4 (at0_of_block X3_4)).mono ?_
                  rintro e v5 ⟨k5, rfl, hr5, st5⟩
                  have hB5 := hB4.trans (st5.mono hB4.size)
                  have P5 := hr5.imp (ok' := (fun z => w.heap.size + 1 ≤ z)) (by rintro z (h | h) _ <;> omega)
                  clear hr5
                  refine hK _ _ ⟨gb_some (gb_below hB5), ?_⟩
                  clear hK K
                  have hz5 : w.heap.size + 1 ≤ v5.heap.size := by have := st5.size; omega
                  have P2_5 := P2_4.below st5
                  have X1_5 := (st5.block _ (Array.getElem?_eq_some_iff.1 X1_4).1).trans X1_4
                  have X3_5 := (st5.block _ (Array.getElem?_eq_some_iff.1 X3_4).1).trans X3_4
                  have X4_5 := (st5.block _ (Array.getElem?_eq_some_iff.1 X4).1).trans X4
                  refine G_only 10 rfl (by kernel_rfl) ?_
                  intro K hK
                  go_simp
                  go_at_call 9
                  refine (fun2 (.app (.bnd 2) (.app (.bnd 1) (.bnd 0))) 3 (by omega) _ (fun z => w.heap.size + 1 ≤ z) k5 P5 ca.tm cb.tm ka kb _ 2 (HW.out.1.below hB5) (HW.out.2.1.below hB5) (at_of_obj2 X4_5).1 (at_of_obj2 X4_5).2).mono ?_
                  rintro e v6 ⟨k6, rfl, hr6, st6⟩
                  have hB6 := hB5.trans (st6.mono hB5.size)
                  have P6 := hr6.imp (ok' := (fun z => w.heap.size + 1 ≤ z)) (by rintro z (h | h) _ <;> omega)
                  clear hr6
                  refine hK _ _ ⟨gb_some (gb_below hB6), ?_⟩
                  clear hK K
                  have hz6 : w.heap.size + 1 ≤ v6.heap.size := by have := st6.size; omega
                  have P2_6 := P2_5.below st6
                  have P5_6 := P5.below st6
                  have X1_6 := (st6.block _ (Array.getElem?_eq_some_iff.1 X1_5).1).trans X1_5
                  have X3_6 := (st6.block _ (Array.getElem?_eq_some_iff.1 X3_5).1).trans X3_5
                  have X4_6 := (st6.block _ (Array.getElem?_eq_some_iff.1 X4_5).1).trans X4_5
                  refine G_only 14 rfl (by kernel_rfl) ?_
                  intro K hK
                  have p7 := (hB6.block w.heap.size (by omega)).trans qR
                  have f0 := (cells_of_block p7).1
                  have f1 := (cells_of_block p7).2.1
                  have f2 := (cells_of_block p7).2.2.1
                  have f3 := (cells_of_block p7).2.2.2.1
                  have f4 := (cells_of_block p7).2.2.2.2.1
                  have f5 := (cells_of_block p7).2.2.2.2.2.1
                  have f6 := (cells_of_block p7).2.2.2.2.2.2.1
                  have f7 := (cells_of_block p7).2.2.2.2.2.2.2.1
                  have f8 := (cells_of_block p7).2.2.2.2.2.2.2.2
                  have fz := free_of_block p7
                  go_simp
                  obtain ⟨V, hV, n1, n2, hsz⟩ := nineE (.int .i64 k6.op) (.string k6.name) (.int .i64 k6.num) (.int .i64 0) (.string ⟨#[]⟩) (.int .i64 0) (.slice none 0 0) (.slice none 0 0) (.slice k6.A k6.n k6.c) p7
                  rw [hV]
                  refine hK _ _ ⟨tr_row (gb_some (gb_below hB6)) n2, ?_⟩
                  clear hK K hV f0 f1 f2 f3 f4 f5 f6 f7 f8 fz
                  refine G_last 15 rfl (by kernel_rfl) (by kernel_rfl) ?_
                  intro K hK
                  go_simp
                  refine hK _ _ ?_
                  clear hK K
                  go_wp2
                  refine end_rowt k6 (.int .i64 (IntKind.i64.wrap (ca.val * cb.val))) rfl (by rfl) (by rfl) rfl n1 ⟨.mul ca cb, k6, (by rw [wrap_small _ HX.out.2.2 (by omega)]; simp [L.C.val]), ⟨H2.out.1, H3.out.1, by rw [← Int.natCast_mul] at k40; omega⟩, (by have := H2.out.2.1; have := H3.out.2.1; simp only [L.C.high]; omega), ?_, ?_, ?_⟩
                  · exact (P6.grown n2 (by simp; omega)).imp (by omega)
                  · exact (HW.out.2.2.1.below hB6).grown n2 (by simp; omega)
                  · exact own_row (tr_row HW.out.2.2.2 (gb_some (gb_below hB6))) n2 (Nat.le_refl _)
              · skip
                intro K hK
                go_simp
                have st3 := alloc_below (v2) (Hd.obj2 ka kb)
                have X3 := new_at (v2) (Hd.obj2 ka kb) v2.heap.size rfl
                have hB3 := hB2.trans (st3.mono hB2.size)
                refine hK _ _ ⟨gb_some (gb_below hB3), ?_⟩
                clear hK K
                generalize hv3 : World.alloc (v2) _ = v3 at *
                clear hv3
                have hz3 : w.heap.size + 1 ≤ v3.heap.size := by have := st3.size; omega
                have P2_3 := P2.below st3
                have X1_3 := (st3.block _ (Array.getElem?_eq_some_iff.1 X1_2).1).trans X1_2
                refine G_only 5 rfl (by kernel_rfl) ?_
                intro K hK
                go_simp
                have st4 := alloc_below (v3) (Hd.obj k2)
                have X4 := new_at (v3) (Hd.obj k2) v3.heap.size rfl
                have hB4 := hB3.trans (st4.mono hB3.size)
                refine hK _ _ ⟨gb_some (gb_below hB4), ?_⟩
                clear hK K
                generalize hv4 : World.alloc (v3) _ = v4 at *
                clear hv4
                have hz4 : w.heap.size + 1 ≤ v4.heap.size := by have := st4.size; omega
                have P2_4 := P2_3.below st4
                have X1_4 := (st4.block _ (Array.getElem?_eq_some_iff.1 X1_3).1).trans X1_3
                have X3_4 := (st4.block _ (Array.getElem?_eq_some_iff.1 X3).1).trans X3
                refine G_only 6 rfl (by kernel_rfl) ?_
                intro K hK
                go_simp
                go_at_call 7
                refine (apps1 (.bnd 2) (.app (.bnd 1) (.bnd 0)) _ (fun z => w.heap.size + 1 ≤ z) (⟨4, ⟨#[]⟩, 2, none, 0, 0⟩ : Hd) k2 _ 1 (show Rep v4 (fun z => w.heap.size + 1 ≤ z) (.bnd 2) (⟨4, ⟨#[]⟩, 2, none, 0, 0⟩) from rfl) P2_4 (at0_of_block X4)).mono ?_
                rintro e v5 ⟨k5, rfl, hr5, st5⟩
                have hB5 := hB4.trans (st5.mono hB4.size)
                have P5 := hr5.imp (ok' := (fun z => w.heap.size + 1 ≤ z)) (by rintro z (h | h) _ <;> omega)
                clear hr5
                refine hK _ _ ⟨gb_some (gb_below hB5), ?_⟩
                clear hK K
                have hz5 : w.heap.size + 1 ≤ v5.heap.size := by have := st5.size; omega
                have P2_5 := P2_4.below st5
                have X1_5 := (st5.block _ (Array.getElem?_eq_some_iff.1 X1_4).1).trans X1_4
                have X3_5 := (st5.block _ (Array.getElem?_eq_some_iff.1 X3_4).1).trans X3_4
                have X4_5 := (st5.block _ (Array.getElem?_eq_some_iff.1 X4).1).trans X4
                refine G_only 10 rfl (by kernel_rfl) ?_
                intro K hK
                go_simp
                go_at_call 9
                refine (fun2 (.app (.bnd 2) (.app (.bnd 1) (.bnd 0))) 3 (by omega) _ (fun z => w.heap.size + 1 ≤ z) k5 P5 ca.tm cb.tm ka kb _ 2 (HW.out.1.below hB5) (HW.out.2.1.below hB5) (at_of_obj2 X3_5).1 (at_of_obj2 X3_5).2).mono ?_
                rintro e v6 ⟨k6, rfl, hr6, st6⟩
                have hB6 := hB5.trans (st6.mono hB5.size)
                have P6 := hr6.imp (ok' := (fun z => w.heap.size + 1 ≤ z)) (by rintro z (h | h) _ <;> omega)
                clear hr6
                refine hK _ _ ⟨gb_some (gb_below hB6), ?_⟩
                clear hK K
                have hz6 : w.heap.size + 1 ≤ v6.heap.size := by have := st6.size; omega
                have P2_6 := P2_5.below st6
                have P5_6 := P5.below st6
                have X1_6 := (st6.block _ (Array.getElem?_eq_some_iff.1 X1_5).1).trans X1_5
                have X3_6 := (st6.block _ (Array.getElem?_eq_some_iff.1 X3_5).1).trans X3_5
                have X4_6 := (st6.block _ (Array.getElem?_eq_some_iff.1 X4_5).1).trans X4_5
                refine G_only 14 rfl (by kernel_rfl) ?_
                intro K hK
                have p7 := (hB6.block w.heap.size (by omega)).trans qR
                have f0 := (cells_of_block p7).1
                have f1 := (cells_of_block p7).2.1
                have f2 := (cells_of_block p7).2.2.1
                have f3 := (cells_of_block p7).2.2.2.1
                have f4 := (cells_of_block p7).2.2.2.2.1
                have f5 := (cells_of_block p7).2.2.2.2.2.1
                have f6 := (cells_of_block p7).2.2.2.2.2.2.1
                have f7 := (cells_of_block p7).2.2.2.2.2.2.2.1
                have f8 := (cells_of_block p7).2.2.2.2.2.2.2.2
                have fz := free_of_block p7
                go_simp
                obtain ⟨V, hV, n1, n2, hsz⟩ := nineE (.int .i64 k6.op) (.string k6.name) (.int .i64 k6.num) (.int .i64 0) (.string ⟨#[]⟩) (.int .i64 0) (.slice none 0 0) (.slice none 0 0) (.slice k6.A k6.n k6.c) p7
                rw [hV]
                refine hK _ _ ⟨tr_row (gb_some (gb_below hB6)) n2, ?_⟩
                clear hK K hV f0 f1 f2 f3 f4 f5 f6 f7 f8 fz
                refine G_last 15 rfl (by kernel_rfl) (by kernel_rfl) ?_
                intro K hK
                go_simp
                refine hK _ _ ?_
                clear hK K
                go_wp2
                refine end_rowt k6 (.int .i64 (IntKind.i64.wrap (ca.val * cb.val))) rfl (by rfl) (by rfl) rfl n1 ⟨.mul ca cb, k6, (by rw [wrap_small _ HX.out.2.2 (by omega)]; simp [L.C.val]), ⟨H2.out.1, H3.out.1, by rw [← Int.natCast_mul] at k40; omega⟩, (by have := H2.out.2.1; have := H3.out.2.1; simp only [L.C.high]; omega), ?_, ?_, ?_⟩
                · exact (P6.grown n2 (by simp; omega)).imp (by omega)
                · exact (HW.out.2.2.1.below hB6).grown n2 (by simp; omega)
                · exact own_row (tr_row HW.out.2.2.2 (gb_some (gb_below hB6))) n2 (Nat.le_refl _)
            · skip
              intro K hK
              go_simp
              have st2 := alloc_below (v1) (Hd.obj2 ka kb)
              have X2 := new_at (v1) (Hd.obj2 ka kb) v1.heap.size rfl
              have hB2 := hB1.trans (st2.mono hB1.size)
              refine hK _ _ ⟨gb_some (gb_below hB2), ?_⟩
              clear hK K
              generalize hv2 : World.alloc (v1) _ = v2 at *
              clear hv2
              have hz2 : w.heap.size + 1 ≤ v2.heap.size := by have := st2.size; omega
              have X1_2 := (st2.block _ (Array.getElem?_eq_some_iff.1 X1).1).trans X1
              refine G_only 4 rfl (by kernel_rfl) ?_
              intro K hK
              go_simp
              go_at_call 7
              refine (apps1 (.bnd 1) (.bnd 0) _ (fun z => w.heap.size + 1 ≤ z) (⟨4, ⟨#[]⟩, 1, none, 0, 0⟩ : Hd) (⟨4, ⟨#[]⟩, 0, none, 0, 0⟩ : Hd) _ 1 (show Rep v2 (fun z => w.heap.size + 1 ≤ z) (.bnd 1) (⟨4, ⟨#[]⟩, 1, none, 0, 0⟩) from rfl) (show Rep v2 (fun z => w.heap.size + 1 ≤ z) (.bnd 0) (⟨4, ⟨#[]⟩, 0, none, 0, 0⟩) from rfl) (at0_of_block X1_2)).mono ?_
              rintro e v3 ⟨k3, rfl, hr3, st3⟩
              have hB3 := hB2.trans (st3.mono hB2.size)
              have P3 := hr3.imp (ok' := (fun z => w.heap.size + 1 ≤ z)) (by rintro z (h | h) _ <;> omega)
              clear hr3
              refine hK _ _ ⟨gb_some (gb_below hB3), ?_⟩
              clear hK K
              have hz3 : w.heap.size + 1 ≤ v3.heap.size := by have := st3.size; omega
              have X1_3 := (st3.block _ (Array.getElem?_eq_some_iff.1 X1_2).1).trans X1_2
              have X2_3 := (st3.block _ (Array.getElem?_eq_some_iff.1 X2).1).trans X2
              refine G_only 5 rfl (by kernel_rfl) ?_
              intro K hK
              go_simp
              have st4 := alloc_below (v3) (Hd.obj k3)
              have X4 := new_at (v3) (Hd.obj k3) v3.heap.size rfl
              have hB4 := hB3.trans (st4.mono hB3.size)
              refine hK _ _ ⟨gb_some (gb_below hB4), ?_⟩
              clear hK K
              generalize hv4 : World.alloc (v3) _ = v4 at *
              clear hv4
              have hz4 : w.heap.size + 1 ≤ v4.heap.size := by have := st4.size; omega
              have P3_4 := P3.below st4
              have X1_4 := (st4.block _ (Array.getElem?_eq_some_iff.1 X1_3).1).trans X1_3
              have X2_4 := (st4.block _ (Array.getElem?_eq_some_iff.1 X2_3).1).trans X2_3
              refine G_only 6 rfl (by kernel_rfl) ?_
              intro K hK
              go_simp
              go_at_call 7
              refine (apps1 (.bnd 2) (.app (.bnd 1) (.bnd 0)) _ (fun z => w.heap.size + 1 ≤ z) (⟨4, ⟨#[]⟩, 2, none, 0, 0⟩ : Hd) k3 _ 1 (show Rep v4 (fun z => w.heap.size + 1 ≤ z) (.bnd 2) (⟨4, ⟨#[]⟩, 2, none, 0, 0⟩) from rfl) P3_4 (at0_of_block X4)).mono ?_
              rintro e v5 ⟨k5, rfl, hr5, st5⟩
              have hB5 := hB4.trans (st5.mono hB4.size)
              have P5 := hr5.imp (ok' := (fun z => w.heap.size + 1 ≤ z)) (by rintro z (h | h) _ <;> omega)
              clear hr5
              refine hK _ _ ⟨gb_some (gb_below hB5), ?_⟩
              clear hK K
              have hz5 : w.heap.size + 1 ≤ v5.heap.size := by have := st5.size; omega
              have P3_5 := P3_4.below st5
              have X1_5 := (st5.block _ (Array.getElem?_eq_some_iff.1 X1_4).1).trans X1_4
              have X2_5 := (st5.block _ (Array.getElem?_eq_some_iff.1 X2_4).1).trans X2_4
              have X4_5 := (st5.block _ (Array.getElem?_eq_some_iff.1 X4).1).trans X4
              refine G_only 10 rfl (by kernel_rfl) ?_
              intro K hK
              go_simp
              go_at_call 9
              refine (fun2 (.app (.bnd 2) (.app (.bnd 1) (.bnd 0))) 3 (by omega) _ (fun z => w.heap.size + 1 ≤ z) k5 P5 ca.tm cb.tm ka kb _ 2 (HW.out.1.below hB5) (HW.out.2.1.below hB5) (at_of_obj2 X2_5).1 (at_of_obj2 X2_5).2).mono ?_
              rintro e v6 ⟨k6, rfl, hr6, st6⟩
              have hB6 := hB5.trans (st6.mono hB5.size)
              have P6 := hr6.imp (ok' := (fun z => w.heap.size + 1 ≤ z)) (by rintro z (h | h) _ <;> omega)
              clear hr6
              refine hK _ _ ⟨gb_some (gb_below hB6), ?_⟩
              clear hK K
              have hz6 : w.heap.size + 1 ≤ v6.heap.size := by have := st6.size; omega
              have P3_6 := P3_5.below st6
              have P5_6 := P5.below st6
              have X1_6 := (st6.block _ (Array.getElem?_eq_some_iff.1 X1_5).1).trans X1_5
              have X2_6 := (st6.block _ (Array.getElem?_eq_some_iff.1 X2_5).1).trans X2_5
              have X4_6 := (st6.block _ (Array.getElem?_eq_some_iff.1 X4_5).1).trans X4_5
              refine G_only 14 rfl (by kernel_rfl) ?_
              intro K hK
              have p7 := (hB6.block w.heap.size (by omega)).trans qR
              have f0 := (cells_of_block p7).1
              have f1 := (cells_of_block p7).2.1
              have f2 := (cells_of_block p7).2.2.1
              have f3 := (cells_of_block p7).2.2.2.1
              have f4 := (cells_of_block p7).2.2.2.2.1
              have f5 := (cells_of_block p7).2.2.2.2.2.1
              have f6 := (cells_of_block p7).2.2.2.2.2.2.1
              have f7 := (cells_of_block p7).2.2.2.2.2.2.2.1
              have f8 := (cells_of_block p7).2.2.2.2.2.2.2.2
              have fz := free_of_block p7
              go_simp
              obtain ⟨V, hV, n1, n2, hsz⟩ := nineE (.int .i64 k6.op) (.string k6.name) (.int .i64 k6.num) (.int .i64 0) (.string ⟨#[]⟩) (.int .i64 0) (.slice none 0 0) (.slice none 0 0) (.slice k6.A k6.n k6.c) p7
              rw [hV]
              refine hK _ _ ⟨tr_row (gb_some (gb_below hB6)) n2, ?_⟩
              clear hK K hV f0 f1 f2 f3 f4 f5 f6 f7 f8 fz
              refine G_last 15 rfl (by kernel_rfl) (by kernel_rfl) ?_
              intro K hK
              go_simp
              refine hK _ _ ?_
              clear hK K
              go_wp2
              refine end_rowt k6 (.int .i64 (IntKind.i64.wrap (ca.val * cb.val))) rfl (by rfl) (by rfl) rfl n1 ⟨.mul ca cb, k6, (by rw [wrap_small _ HX.out.2.2 (by omega)]; simp [L.C.val]), ⟨H2.out.1, H3.out.1, by rw [← Int.natCast_mul] at k40; omega⟩, (by have := H2.out.2.1; have := H3.out.2.1; simp only [L.C.high]; omega), ?_, ?_, ?_⟩
              · exact (P6.grown n2 (by simp; omega)).imp (by omega)
              · exact (HW.out.2.2.1.below hB6).grown n2 (by simp; omega)
              · exact own_row (tr_row HW.out.2.2.2 (gb_some (gb_below hB6))) n2 (Nat.le_refl _)
          · skip
            intro K hK
            go_simp
            have st1 := alloc_below (v0) (Hd.obj2 ka kb)
            have X1 := new_at (v0) (Hd.obj2 ka kb) v0.heap.size rfl
            have hB1 := hB0.trans (st1.mono hB0.size)
            refine hK _ _ ⟨gb_some (gb_below hB1), ?_⟩
            clear hK K
            generalize hv1 : World.alloc (v0) _ = v1 at *
            clear hv1
            have hz1 : w.heap.size + 1 ≤ v1.heap.size := by have := st1.size; omega
            refine G_only 3 rfl (by kernel_rfl) ?_
            intro K hK
            go_simp
            have st2 := alloc_below (v1) (Hd.obj ⟨4, ⟨#[]⟩, 0, none, 0, 0⟩)
            have X2 := new_at (v1) (Hd.obj ⟨4, ⟨#[]⟩, 0, none, 0, 0⟩) v1.heap.size rfl
            have hB2 := hB1.trans (st2.mono hB1.size)
            refine hK _ _ ⟨gb_some (gb_below hB2), ?_⟩
            clear hK K
            generalize hv2 : World.alloc (v1) _ = v2 at *
            clear hv2
            have hz2 : w.heap.size + 1 ≤ v2.heap.size := by have := st2.size; omega
            have X1_2 := (st2.block _ (Array.getElem?_eq_some_iff.1 X1).1).trans X1
            refine G_only 4 rfl (by kernel_rfl) ?_
            intro K hK
            go_simp
            go_at_call 7
            refine (apps1 (.bnd 1) (.bnd 0) _ (fun z => w.heap.size + 1 ≤ z) (⟨4, ⟨#[]⟩, 1, none, 0, 0⟩ : Hd) (⟨4, ⟨#[]⟩, 0, none, 0, 0⟩ : Hd) _ 1 (show Rep v2 (fun z => w.heap.size + 1 ≤ z) (.bnd 1) (⟨4, ⟨#[]⟩, 1, none, 0, 0⟩) from rfl) (show Rep v2 (fun z => w.heap.size + 1 ≤ z) (.bnd 0) (⟨4, ⟨#[]⟩, 0, none, 0, 0⟩) from rfl) (at0_of_block X2)).mono ?_
            rintro e v3 ⟨k3, rfl, hr3, st3⟩
            have hB3 := hB2.trans (st3.mono hB2.size)
            have P3 := hr3.imp (ok' := (fun z => w.heap.size + 1 ≤ z)) (by rintro z (h | h) _ <;> omega)
            clear hr3
            refine hK _ _ ⟨gb_some (gb_below hB3), ?_⟩
            clear hK K
            have hz3 : w.heap.size + 1 ≤ v3.heap.size := by have := st3.size; omega
            have X1_3 := (st3.block _ (Array.getElem?_eq_some_iff.1 X1_2).1).trans X1_2
            have X2_3 := (st3.block _ (Array.getElem?_eq_some_iff.1 X2).1).trans X2
            refine G_only 5 rfl (by kernel_rfl) ?_
            intro K hK
            go_simp
            have st4 := alloc_below (v3) (Hd.obj k3)
            have X4 := new_at (v3) (Hd.obj k3) v3.heap.size rfl
            have hB4 := hB3.trans (st4.mono hB3.size)
            refine hK _ _ ⟨gb_some (gb_below hB4), ?_⟩
            clear hK K
            generalize hv4 : World.alloc (v3) _ = v4 at *
            clear hv4
            have hz4 : w.heap.size + 1 ≤ v4.heap.size := by have := st4.size; omega
            have P3_4 := P3.below st4
            have X1_4 := (st4.block _ (Array.getElem?_eq_some_iff.1 X1_3).1).trans X1_3
            have X2_4 := (st4.block _ (Array.getElem?_eq_some_iff.1 X2_3).1).trans X2_3
            refine G_only 6 rfl (by kernel_rfl) ?_
            intro K hK
            go_simp
            go_at_call 7
            refine (apps1 (.bnd 2) (.app (.bnd 1) (.bnd 0)) _ (fun z => w.heap.size + 1 ≤ z) (⟨4, ⟨#[]⟩, 2, none, 0, 0⟩ : Hd) k3 _ 1 (show Rep v4 (fun z => w.heap.size + 1 ≤ z) (.bnd 2) (⟨4, ⟨#[]⟩, 2, none, 0, 0⟩) from rfl) P3_4 (at0_of_block X4)).mono ?_
            rintro e v5 ⟨k5, rfl, hr5, st5⟩
            have hB5 := hB4.trans (st5.mono hB4.size)
            have P5 := hr5.imp (ok' := (fun z => w.heap.size + 1 ≤ z)) (by rintro z (h | h) _ <;> omega)
            clear hr5
            refine hK _ _ ⟨gb_some (gb_below hB5), ?_⟩
            clear hK K
            have hz5 : w.heap.size + 1 ≤ v5.heap.size := by have := st5.size; omega
            have P3_5 := P3_4.below st5
            have X1_5 := (st5.block _ (Array.getElem?_eq_some_iff.1 X1_4).1).trans X1_4
            have X2_5 := (st5.block _ (Array.getElem?_eq_some_iff.1 X2_4).1).trans X2_4
            have X4_5 := (st5.block _ (Array.getElem?_eq_some_iff.1 X4).1).trans X4
            refine G_only 10 rfl (by kernel_rfl) ?_
            intro K hK
            go_simp
            go_at_call 9
            refine (fun2 (.app (.bnd 2) (.app (.bnd 1) (.bnd 0))) 3 (by omega) _ (fun z => w.heap.size + 1 ≤ z) k5 P5 ca.tm cb.tm ka kb _ 2 (HW.out.1.below hB5) (HW.out.2.1.below hB5) (at_of_obj2 X1_5).1 (at_of_obj2 X1_5).2).mono ?_
            rintro e v6 ⟨k6, rfl, hr6, st6⟩
            have hB6 := hB5.trans (st6.mono hB5.size)
            have P6 := hr6.imp (ok' := (fun z => w.heap.size + 1 ≤ z)) (by rintro z (h | h) _ <;> omega)
            clear hr6
            refine hK _ _ ⟨gb_some (gb_below hB6), ?_⟩
            clear hK K
            have hz6 : w.heap.size + 1 ≤ v6.heap.size := by have := st6.size; omega
            have P3_6 := P3_5.below st6
            have P5_6 := P5.below st6
            have X1_6 := (st6.block _ (Array.getElem?_eq_some_iff.1 X1_5).1).trans X1_5
            have X2_6 := (st6.block _ (Array.getElem?_eq_some_iff.1 X2_5).1).trans X2_5
            have X4_6 := (st6.block _ (Array.getElem?_eq_some_iff.1 X4_5).1).trans X4_5
            refine G_only 14 rfl (by kernel_rfl) ?_
            intro K hK
            have p7 := (hB6.block w.heap.size (by omega)).trans qR
            have f0 := (cells_of_block p7).1
            have f1 := (cells_of_block p7).2.1
            have f2 := (cells_of_block p7).2.2.1
            have f3 := (cells_of_block p7).2.2.2.1
            have f4 := (cells_of_block p7).2.2.2.2.1
            have f5 := (cells_of_block p7).2.2.2.2.2.1
            have f6 := (cells_of_block p7).2.2.2.2.2.2.1
            have f7 := (cells_of_block p7).2.2.2.2.2.2.2.1
            have f8 := (cells_of_block p7).2.2.2.2.2.2.2.2
            have fz := free_of_block p7
            go_simp
            obtain ⟨V, hV, n1, n2, hsz⟩ := nineE (.int .i64 k6.op) (.string k6.name) (.int .i64 k6.num) (.int .i64 0) (.string ⟨#[]⟩) (.int .i64 0) (.slice none 0 0) (.slice none 0 0) (.slice k6.A k6.n k6.c) p7
            rw [hV]
            refine hK _ _ ⟨tr_row (gb_some (gb_below hB6)) n2, ?_⟩
            clear hK K hV f0 f1 f2 f3 f4 f5 f6 f7 f8 fz
            refine G_last 15 rfl (by kernel_rfl) (by kernel_rfl) ?_
            intro K hK
            go_simp
            refine hK _ _ ?_
            clear hK K
            go_wp2
            refine end_rowt k6 (.int .i64 (IntKind.i64.wrap (ca.val * cb.val))) rfl (by rfl) (by rfl) rfl n1 ⟨.mul ca cb, k6, (by rw [wrap_small _ HX.out.2.2 (by omega)]; simp [L.C.val]), ⟨H2.out.1, H3.out.1, by rw [← Int.natCast_mul] at k40; omega⟩, (by have := H2.out.2.1; have := H3.out.2.1; simp only [L.C.high]; omega), ?_, ?_, ?_⟩
            · exact (P6.grown n2 (by simp; omega)).imp (by omega)
            · exact (HW.out.2.2.1.below hB6).grown n2 (by simp; omega)
            · exact own_row (tr_row HW.out.2.2.2 (gb_some (gb_below hB6))) n2 (Nat.le_refl _)
        · skip
          obtain ⟨la1, la2, la3, la4, _, _⟩ := lts (show w.heap.size < w7.heap.size by omega)
          obtain ⟨lb1, lb2, lb3, lb4, _, _⟩ := lts (show w3.heap.size < w7.heap.size by omega)
          have la0 : w.heap.size < w7.heap.size := by omega
          have lb0 : w3.heap.size < w7.heap.size := by omega
          have f0 := (cells_of_block H7.out.2.1).1
          have f1 := (cells_of_block H7.out.2.1).2.1
          have f2 := (cells_of_block H7.out.2.1).2.2.1
          have f3 := (cells_of_block H7.out.2.1).2.2.2.1
          have f4 := (cells_of_block H7.out.2.1).2.2.2.2.1
          have f5 := (cells_of_block H7.out.2.1).2.2.2.2.2.1
          have f6 := (cells_of_block H7.out.2.1).2.2.2.2.2.2.1
          have f7 := (cells_of_block H7.out.2.1).2.2.2.2.2.2.2.1
          have f8 := (cells_of_block H7.out.2.1).2.2.2.2.2.2.2.2
          have e0 := (cells_of_block H7.out.2.2.2).1
          have e1 := (cells_of_block H7.out.2.2.2).2.1
          have e2 := (cells_of_block H7.out.2.2.2).2.2.1
          have e3 := (cells_of_block H7.out.2.2.2).2.2.2.1
          have e4 := (cells_of_block H7.out.2.2.2).2.2.2.2.1
          have e5 := (cells_of_block H7.out.2.2.2).2.2.2.2.2.1
          have e6 := (cells_of_block H7.out.2.2.2).2.2.2.2.2.2.1
          have e7 := (cells_of_block H7.out.2.2.2).2.2.2.2.2.2.2.1
          have e8 := (cells_of_block H7.out.2.2.2).2.2.2.2.2.2.2.2
          have fz := free_of_block H7.out.2.1
          go_wp2
          have hB4 := below4 w7 (Hd.obj ⟨4, ⟨#[]⟩, 0, none, 0, 0⟩) (Hd.obj ⟨4, ⟨#[]⟩, 1, none, 0, 0⟩) (Hd.obj ⟨4, ⟨#[]⟩, 2, none, 0, 0⟩) (Hd.obj ⟨4, ⟨#[]⟩, 3, none, 0, 0⟩)
          obtain ⟨V, hV, n1, n2, hsz⟩ := nineE (.int .i64 kb.op) (.string kb.name) (.int .i64 kb.num) (.int .i64 0) (.string ⟨#[]⟩) (.int .i64 0) (.slice none 0 0) (.slice none 0 0) (.slice kb.A kb.n kb.c) H7.out.2.1
          rw [hV]
          clear hV f0 f1 f2 f3 f4 f5 f6 f7 f8 fz e0 e1 e2 e3 e4 e5 e6 e7 e8
          have hb4 := below4 V (Hd.obj ⟨4, ⟨#[]⟩, 0, none, 0, 0⟩) (Hd.obj ⟨4, ⟨#[]⟩, 1, none, 0, 0⟩) (Hd.obj ⟨4, ⟨#[]⟩, 2, none, 0, 0⟩) (Hd.obj ⟨4, ⟨#[]⟩, 3, none, 0, 0⟩)
          refine end_rowt kb (.int .i64 cb.val) rfl (by rfl) (by rfl) rfl ((hb4.block _ (by omega)).trans n1) ⟨cb, kb, rfl, H3.out.1, by have := H3.out.2.1; omega, ?_, ?_, ?_⟩
          · exact ((((H3.out.2.2.1.below (alloc_below w3 kb.obj)).below H7.out.1).grown n2 (by simp; omega)).below hb4).imp (by simp; omega)
          · exact (((((H3.out.2.2.2.1.below (alloc_below w3 kb.obj)).below H7.out.1)).grown n2 (by simp; omega))).below hb4
          · exact tr_row (own_row (tr_row (tr_row H1.out.2.2 H2.out.2.2.2.2.1) (tr_row (gb_some (gb_alloc w2 ka.obj)) (tr_row H3.out.2.2.2.2.1 (gb_some (gb_trans (gb_alloc w3 kb.obj) (gb_below H7.out.1)))))) n2 (Nat.le_refl _)) (gb_some (gb_below hb4))
      · by_cases q4 : ((r : Int) == 4) = true
        · have r5 : ((r : Int) == 5) = false := by simp at q4 ⊢; omega
          by_cases k40 : (ca.val : Int) < 40
          · go_wp2_with fail
            refine gen4 ?_
            intro W hbW hsW g0 g1 g2 g3
            have qR := (hbW.block w.heap.size (by omega)).trans H7.out.2.1
            have qa := (hbW.block w2.heap.size (by omega)).trans H7.out.2.2.1
            have qb := (hbW.block w3.heap.size (by omega)).trans H7.out.2.2.2
            have RA : Rep W (fun z => w.heap.size + 1 ≤ z) ca.tm ka := ((((((H2.out.2.2.1.below (alloc_below w2 ka.obj)).grown H3.out.2.2.2.2.1 (by simp; omega)).below (alloc_below w3 kb.obj)).below H7.out.1).below hbW)).imp (by omega)
            have RB : Rep W (fun z => w.heap.size + 1 ≤ z) cb.tm kb := (((H3.out.2.2.1.below (alloc_below w3 kb.obj)).below H7.out.1).below hbW).imp (by simp; omega)
            have TW : Tile W g := ((H3.out.2.2.2.1.below (alloc_below w3 kb.obj)).below H7.out.1).below hbW
            have GW : w.grownBy W (some g) := tr_row (tr_row H1.out.2.2 H2.out.2.2.2.2.1) (tr_row (gb_some (gb_alloc w2 ka.obj)) (tr_row H3.out.2.2.2.2.1 (gb_some (gb_trans (gb_alloc w3 kb.obj) (gb_trans (gb_below H7.out.1) (gb_below hbW))))))
            have hsW1 : w7.heap.size + 4 ≤ W.heap.size := by omega
            clear hsW
            have HW := Lib.hid (And.intro RA (And.intro RB (And.intro TW GW)))
            clear RA RB TW GW hbW
            refine G_begin (fun w' => W.grownBy w' (some w.heap.size)) (by kernel_rfl) ?_
            have hB0 : Below W.heap.size W W.drew := (Below.refl _ _).drew
            generalize hv0 : World.drew W = v0 at *
            clear hv0
            have hz0 : w.heap.size + 1 ≤ v0.heap.size := by have := hB0.size; omega
            refine G_take 0 14 rfl (by kernel_rfl) (fun _ _ _ h => h) (gb_some (gb_below hB0)) (v := ?_) (.inl ⟨by rfl, ?_⟩) ?_
            rotate_left
            · intro w' hw'; obtain ⟨e0, e1, e2, e3, e4, e5, e6, e7, e8⟩ := cells_of_block ((hw'.block (w7.heap.size + 1) (by omega) (by simp; omega)).trans g1); go_simp; try with_reducible rfl
            refine G_take 1 14 rfl (by kernel_rfl) (fun _ _ _ h => h) (gb_some (gb_below hB0)) (v := ?_) (.inl ⟨by rfl, ?_⟩) ?_
            rotate_left
            · intro w' hw'; obtain ⟨e0, e1, e2, e3, e4, e5, e6, e7, e8⟩ := cells_of_block ((hw'.block (w7.heap.size + 1 + 1) (by omega) (by simp; omega)).trans g2); go_simp; try with_reducible rfl
            refine G_take 2 14 rfl (by kernel_rfl) (fun _ _ _ h => h) (gb_some (gb_below hB0)) (v := ?_) (.inl ⟨by rfl, ?_⟩) ?_
            rotate_left
            · intro w' hw'; obtain ⟨e0, e1, e2, e3, e4, e5, e6, e7, e8⟩ := cells_of_block ((hw'.block (w7.heap.size + 1) (by omega) (by simp; omega)).trans g1); go_simp; try with_reducible rfl
            refine G_take 3 14 rfl (by kernel_rfl) (fun _ _ _ h => h) (gb_some (gb_below hB0)) (v := ?_) (.inl ⟨by rfl, ?_⟩) ?_
            rotate_left
            · intro w' hw'; obtain ⟨e0, e1, e2, e3, e4, e5, e6, e7, e8⟩ := cells_of_block ((hw'.block (w7.heap.size) (by omega) (by simp; omega)).trans g0); go_simp; try with_reducible rfl
            refine G_take 8 14 rfl (by kernel_rfl) (fun _ _ _ h => h) (gb_some (gb_below hB0)) (v := ?_) (.inl ⟨by rfl, ?_⟩) ?_
            rotate_left
            · intro w' hw'; obtain ⟨e0, e1, e2, e3, e4, e5, e6, e7, e8⟩ := cells_of_block ((hw'.block (w2.heap.size) (by omega) (by simp; omega)).trans qa); go_simp; try with_reducible rfl
            refine G_take 11 14 rfl (by kernel_rfl) (fun _ _ _ h => h) (gb_some (gb_below hB0)) (v := ?_) (.inl ⟨by rfl, ?_⟩) ?_
            rotate_left
            · intro w' hw'; go_simp; try with_reducible rfl
            refine G_take 12 14 rfl (by kernel_rfl) (fun _ _ _ h => h) (gb_some (gb_below hB0)) (v := ?_) (.inl ⟨by rfl, ?_⟩) ?_
            rotate_left
            · intro w' hw'; go_simp; try with_reducible rfl
            refine G_two 4 9 rfl rfl (by kernel_rfl) ?_ ?_
            · skip
              intro K hK
              go_simp
              have st1 := alloc_below (v0) (Hd.obj2 ⟨4, ⟨#[]⟩, 1, none, 0, 0⟩ ⟨4, ⟨#[]⟩, 0, none, 0, 0⟩)
              have X1 := new_at (v0) (Hd.obj2 ⟨4, ⟨#[]⟩, 1, none, 0, 0⟩ ⟨4, ⟨#[]⟩, 0, none, 0, 0⟩) v0.heap.size rfl
              have hB1 := hB0.trans (st1.mono hB0.size)
              refine hK _ _ ⟨gb_some (gb_below hB1), ?_⟩
              clear hK K
              generalize hv1 : World.alloc (v0) _ = v1 at *
              clear hv1
              have hz1 : w.heap.size + 1 ≤ v1.heap.size := by have := st1.size; omega
              refine G_two 5 9 rfl rfl (by kernel_rfl) ?_ ?_
              · skip
                intro K hK
                go_simp
                go_at_call 7
                refine (apps2 (.bnd 2) (.bnd 1) (.bnd 0) _ (fun z => w.heap.size + 1 ≤ z) (⟨4, ⟨#[]⟩, 2, none, 0, 0⟩ : Hd) (⟨4, ⟨#[]⟩, 1, none, 0, 0⟩ : Hd) (⟨4, ⟨#[]⟩, 0, none, 0, 0⟩ : Hd) _ 2 (show Rep v1 (fun z => w.heap.size + 1 ≤ z) (.bnd 2) (⟨4, ⟨#[]⟩, 2, none, 0, 0⟩) from rfl) (show Rep v1 (fun z => w.heap.size + 1 ≤ z) (.bnd 1) (⟨4, ⟨#[]⟩, 1, none, 0, 0⟩) from rfl) (show Rep v1 (fun z => w.heap.size + 1 ≤ z) (.bnd 0) (⟨4, ⟨#[]⟩, 0, none, 0, 0⟩) from rfl) (at_of_obj2 X1).1 (at_of_obj2 X1).2).mono ?_
                rintro e v2 ⟨k2, rfl, hr2, st2⟩
                have hB2 := hB1.trans (st2.mono hB1.size)
                have P2 := hr2.imp (ok' := (fun z => w.heap.size + 1 ≤ z)) (by rintro z (h | h) _ <;> omega)
                clear hr2
                refine hK _ _ ⟨gb_some (gb_below hB2), ?_⟩
                clear hK K
                have hz2 : w.heap.size + 1 ≤ v2.heap.size := by have := st2.size; omega
                have X1_2 := (st2.block _ (Array.getElem?_eq_some_iff.1 X1).1).trans X1
                refine G_two 6 9 rfl rfl (by kernel_rfl) ?_ ?_
                · skip
                  intro K hK
                  go_simp
                  have st3 := alloc_below (v2) (Hd.obj k2)
                  have X3 := new_at (v2) (Hd.obj k2) v2.heap.size rfl
                  have hB3 := hB2.trans (st3.mono hB2.size)
                  refine hK _ _ ⟨gb_some (gb_below hB3), ?_⟩
                  clear hK K
                  generalize hv3 : World.alloc (v2) _ = v3 at *
                  clear hv3
                  have hz3 : w.heap.size + 1 ≤ v3.heap.size := by have := st3.size; omega
                  have P2_3 := P2.below st3
                  have X1_3 := (st3.block _ (Array.getElem?_eq_some_iff.1 X1_2).1).trans X1_2
                  refine G_two 7 9 rfl rfl (by kernel_rfl) ?_ ?_
                  · skip
                    intro K hK
                    go_simp
                    go_at_call 7
                    refine (apps1 (.bnd 1) (.app (.app (.bnd 2) (.bnd 1)) (.bnd 0)) _ (fun z => w.heap.size + 1 ≤ z) (⟨4, ⟨#[]⟩, 1, none, 0, 0⟩ : Hd) k2 _ 1 (show Rep v3 (fun z => w.heap.size + 1 ≤ z) (.bnd 1) (⟨4, ⟨#[]⟩, 1, none, 0, 0⟩) from rfl) P2_3 (at0_of_block X3)).mono ?_
                    rintro e v4 ⟨k4, rfl, hr4, st4⟩
                    have hB4 := hB3.trans (st4.mono hB3.size)
                    have P4 := hr4.imp (ok' := (fun z => w.heap.size + 1 ≤ z)) (by rintro z (h | h) _ <;> omega)
                    clear hr4
                    refine hK _ _ ⟨gb_some (gb_below hB4), ?_⟩
                    clear hK K
                    have hz4 : w.heap.size + 1 ≤ v4.heap.size := by have := st4.size; omega
                    have P2_4 := P2_3.below st4
                    have X1_4 := (st4.block _ (Array.getElem?_eq_some_iff.1 X1_3).1).trans X1_3
                    have X3_4 := (st4.block _ (Array.getElem?_eq_some_iff.1 X3).1).trans X3
                    refine G_only 9 rfl (by kernel_rfl) ?_
                    intro K hK
                    go_simp
                    have st5 := alloc_below (v4) (Hd.obj ka)
                    have X5 := new_at (v4) (Hd.obj ka) v4.heap.size rfl
                    have hB5 := hB4.trans (st5.mono hB4.size)
                    refine hK _ _ ⟨gb_some (gb_below hB5), ?_⟩
                    clear hK K
                    generalize hv5 : World.alloc (v4) _ = v5 at *
                    clear hv5
                    have hz5 : w.heap.size + 1 ≤ v5.heap.size := by have := st5.size; omega
                    have P2_5 := P2_4.below st5
                    have P4_5 := P4.below st5
                    have X1_5 := (st5.block _ (Array.getElem?_eq_some_iff.1 X1_4).1).trans X1_4
                    have X3_5 := (st5.block _ (Array.getElem?_eq_some_iff.1 X3_4).1).trans X3_4
                    refine G_only 10 rfl (by kernel_rfl) ?_
                    intro K hK
                    go_simp
                    go_at_call 9
                    refine (fun1 (.app (.bnd 1) (.app (.app (.bnd 2) (.bnd 1)) (.bnd 0))) 3 (by omega) _ (fun z => w.heap.size + 1 ≤ z) k4 P4_5 ca.tm ka _ 1 (HW.out.1.below hB5) (at0_of_block X5)).mono ?_
                    rintro e v6 ⟨k6, rfl, hr6, st6⟩
                    have hB6 := hB5.trans (st6.mono hB5.size)
                    have P6 := hr6.imp (ok' := (fun z => w.heap.size + 1 ≤ z)) (by rintro z (h | h) _ <;> omega)
                    clear hr6
                    refine hK _ _ ⟨gb_some (gb_below hB6), ?_⟩
                    clear hK K
                    have hz6 : w.heap.size + 1 ≤ v6.heap.size := by have := st6.size; omega
                    have P2_6 := P2_5.below st6
                    have P4_6 := P4_5.below st6
                    have X1_6 := (st6.block _ (Array.getElem?_eq_some_iff.1 X1_5).1).trans X1_5
                    have X3_6 := (st6.block _ (Array.getElem?_eq_some_iff.1 X3_5).1).trans X3_5
                    have X5_6 := (st6.block _ (Array.getElem?_eq_some_iff.1 X5).1).trans X5
                    refine G_only 13 rfl (by kernel_rfl) ?_
                    intro K hK
                    have p7 := (hB6.block w.heap.size (by omega)).trans qR
                    have f0 := (cells_of_block p7).1
                    have f1 := (cells_of_block p7).2.1
                    have f2 := (cells_of_block p7).2.2.1
                    have f3 := (cells_of_block p7).2.2.2.1
                    have f4 := (cells_of_block p7).2.2.2.2.1
                    have f5 := (cells_of_block p7).2.2.2.2.2.1
                    have f6 := (cells_of_block p7).2.2.2.2.2.2.1
                    have f7 := (cells_of_block p7).2.2.2.2.2.2.2.1
                    have f8 := (cells_of_block p7).2.2.2.2.2.2.2.2
                    have fz := free_of_block p7
                    go_simp
                    obtain ⟨V, hV, n1, n2, hsz⟩ := nineE (.int .i64 k6.op) (.string k6.name) (.int .i64 k6.num) (.int .i64 0) (.string ⟨#[]⟩) (.int .i64 0) (.slice none 0 0) (.slice none 0 0) (.slice k6.A k6.n k6.c) p7
                    rw [hV]
                    refine hK _ _ ⟨tr_row (gb_some (gb_below hB6)) n2, ?_⟩
                    clear hK K hV f0 f1 f2 f3 f4 f5 f6 f7 f8 fz
                    refine G_last 14 rfl (by kernel_rfl) (by kernel_rfl) ?_
                    intro K hK
                    go_simp
                    refine hK _ _ ?_
                    clear hK K
                    go_wp2
                    refine end_rowt k6 (.int .i64 (IntKind.i64.wrap (ca.val + 1))) rfl (by rfl) (by rfl) rfl n1 ⟨.suc ca, k6, (by rw [wrap_small _ (by omega) (by omega)]; simp [L.C.val]), ⟨H2.out.1, by omega⟩, (by have := H2.out.2.1; simp only [L.C.high]; omega), ?_, ?_, ?_⟩
                    · exact (P6.grown n2 (by simp; omega)).imp (by omega)
                    · exact (HW.out.2.2.1.below hB6).grown n2 (by simp; omega)
                    · exact own_row (tr_row HW.out.2.2.2 (gb_some (gb_below hB6))) n2 (Nat.le_refl _)
                  · skip
                    intro K hK
                    go_simp
                    have st4 := alloc_below (v3) (Hd.obj ka)
                    have X4 := new_at (v3) (Hd.obj ka) v3.heap.size rfl
                    have hB4 := hB3.trans (st4.mono hB3.size)
                    refine hK _ _ ⟨gb_some (gb_below hB4), ?_⟩
                    clear hK K
                    generalize hv4 : World.alloc (v3) _ = v4 at *
                    clear hv4
                    have hz4 : w.heap.size + 1 ≤ v4.heap.size := by have := st4.size; omega
                    have P2_4 := P2_3.below st4
                    have X1_4 := (st4.block _ (Array.getElem?_eq_some_iff.1 X1_3).1).trans X1_3
                    have X3_4 := (st4.block _ (Array.getElem?_eq_some_iff.1 X3).1).trans X3
                    refine G_only 7 rfl (by kernel_rfl) ?_
                    intro K hK
                    go_simp
                    go_at_call 7
                    refine (apps1 (.bnd 1) (.app (.app (.bnd 2) (.bnd 1)) (.bnd 0)) _ (fun z => w.heap.size + 1 ≤ z) (⟨4, ⟨#[]⟩, 1, none, 0, 0⟩ : Hd) k2 _ 1 (show Rep v4 (fun z => w.heap.size + 1 ≤ z) (.bnd 1) (⟨4, ⟨#[]⟩, 1, none, 0, 0⟩) from rfl) P2_4 (at0_of_block X3_4)).mono ?_
                    rintro e v5 ⟨k5, rfl, hr5, st5⟩
                    have hB5 := hB4.trans (st5.mono hB4.size)
                    have P5 := hr5.imp (ok' := (fun z => w.heap.size + 1 ≤ z)) (by rintro z (h | h) _ <;> omega)
                    clear hr5
                    refine hK _ _ ⟨gb_some (gb_below hB5), ?_⟩
                    clear hK K
                    have hz5 : w.heap.size + 1 ≤ v5.heap.size := by have := st5.size; omega
                    have P2_5 := P2_4.below st5
                    have X1_5 := (st5.block _ (Array.getElem?_eq_some_iff.1 X1_4).1).trans X1_4
                    have X3_5 := (st5.block _ (Array.getElem?_eq_some_iff.1 X3_4).1).trans X3_4
                    have X4_5 := (st5.block _ (Array.getElem?_eq_some_iff.1 X4).1).trans X4
                    refine G_only 10 rfl (by kernel_rfl) ?_
                    intro K hK
                    go_simp
                    go_at_call 9
                    refine (fun1 (.app (.bnd 1) (.app (.app (.bnd 2) (.bnd 1)) (.bnd 0))) 3 (by omega) _ (fun z => w.heap.size + 1 ≤ z) k5 P5 ca.tm ka _ 1 (HW.out.1.below hB5) (at0_of_block X4_5)).mono ?_
                    rintro e v6 ⟨k6, rfl, hr6, st6⟩
                    have hB6 := hB5.trans (st6.mono hB5.size)
                    have P6 := hr6.imp (ok' := (fun z => w.heap.size + 1 ≤ z)) (by rintro z (h | h) _ <;> omega)
                    clear hr6
                    refine hK _ _ ⟨gb_some (gb_below hB6), ?_⟩
                    clear hK K
                    have hz6 : w.heap.size + 1 ≤ v6.heap.size := by have := st6.size; omega
                    have P2_6 := P2_5.below st6
                    have P5_6 := P5.below st6
                    have X1_6 := (st6.block _ (Array.getElem?_eq_some_iff.1 X1_5).1).trans X1_5
                    have X3_6 := (st6.block _ (Array.getElem?_eq_some_iff.1 X3_5).1).trans X3_5
                    have X4_6 := (st6.block _ (Array.getElem?_eq_some_iff.1 X4_5).1).trans X4_5
                    refine G_only 13 rfl (by kernel_rfl) ?_
                    intro K hK
                    have p7 := (hB6.block w.heap.size (by omega)).trans qR
                    have f0 := (cells_of_block p7).1
                    have f1 := (cells_of_block p7).2.1
                    have f2 := (cells_of_block p7).2.2.1
                    have f3 := (cells_of_block p7).2.2.2.1
                    have f4 := (cells_of_block p7).2.2.2.2.1
                    have f5 := (cells_of_block p7).2.2.2.2.2.1
                    have f6 := (cells_of_block p7).2.2.2.2.2.2.1
                    have f7 := (cells_of_block p7).2.2.2.2.2.2.2.1
                    have f8 := (cells_of_block p7).2.2.2.2.2.2.2.2
                    have fz := free_of_block p7
                    go_simp
                    obtain ⟨V, hV, n1, n2, hsz⟩ := nineE (.int .i64 k6.op) (.string k6.name) (.int .i64 k6.num) (.int .i64 0) (.string ⟨#[]⟩) (.int .i64 0) (.slice none 0 0) (.slice none 0 0) (.slice k6.A k6.n k6.c) p7
                    rw [hV]
                    refine hK _ _ ⟨tr_row (gb_some (gb_below hB6)) n2, ?_⟩
                    clear hK K hV f0 f1 f2 f3 f4 f5 f6 f7 f8 fz
                    refine G_last 14 rfl (by kernel_rfl) (by kernel_rfl) ?_
                    intro K hK
                    go_simp
                    refine hK _ _ ?_
                    clear hK K
                    go_wp2
                    refine end_rowt k6 (.int .i64 (IntKind.i64.wrap (ca.val + 1))) rfl (by rfl) (by rfl) rfl n1 ⟨.suc ca, k6, (by rw [wrap_small _ (by omega) (by omega)]; simp [L.C.val]), ⟨H2.out.1, by omega⟩, (by have := H2.out.2.1; simp only [L.C.high]; omega), ?_, ?_, ?_⟩
                    · exact (P6.grown n2 (by simp; omega)).imp (by omega)
                    · exact (HW.out.2.2.1.below hB6).grown n2 (by simp; omega)
                    · exact own_row (tr_row HW.out.2.2.2 (gb_some (gb_below hB6))) n2 (Nat.le_refl _)
                · skip
                  intro K hK
                  go_simp
                  have st3 := alloc_below (v2) (Hd.obj ka)
                  have X3 := new_at (v2) (Hd.obj ka) v2.heap.size rfl
                  have hB3 := hB2.trans (st3.mono hB2.size)
                  refine hK _ _ ⟨gb_some (gb_below hB3), ?_⟩
                  clear hK K
                  generalize hv3 : World.alloc (v2) _ = v3 at *
                  clear hv3
                  have hz3 : w.heap.size + 1 ≤ v3.heap.size := by have := st3.size; omega
                  have P2_3 := P2.below st3
                  have X1_3 := (st3.block _ (Array.getElem?_eq_some_iff.1 X1_2).1).trans X1_2
                  refine G_only 6 rfl (by kernel_rfl) ?_
                  intro K hK
                  go_simp
                  have st4 := alloc_below (v3) (Hd.obj k2)
                  have X4 := new_at (v3) (Hd.obj k2) v3.heap.size rfl
                  have hB4 := hB3.trans (st4.mono hB3.size)
                  refine hK _ _ ⟨gb_some (gb_below hB4), ?_⟩
                  clear hK K
                  generalize hv4 : World.alloc (v3) _ = v4 at *
                  clear hv4
                  have hz4 : w.heap.size + 1 ≤ v4.heap.size := by have := st4.size; omega
                  have P2_4 := P2_3.below st4
                  have X1_4 := (st4.block _ (Array.getElem?_eq_some_iff.1 X1_3).1).trans X1_3
                  have X3_4 := (st4.block _ (Array.getElem?_eq_some_iff.1 X3).1).trans X3
                  refine G_only 7 rfl (by kernel_rfl) ?_
                  intro K hK
                  go_simp
                  go_at_call 7
                  refine (apps1 (.bnd 1) (.app (.app (.bnd 2) (.bnd 1)) (.bnd 0)) _ (fun z => w.heap.size + 1 ≤ z) (⟨4, ⟨#[]⟩, 1, none, 0, 0⟩ : Hd) k2 _ 1 (show Rep v4 (fun z => w.heap.size + 1 ≤ z) (.bnd 1) (⟨4, ⟨#[]⟩, 1, none, 0, 0⟩) from rfl) P2_4 (at0_of_block X4)).mono ?_
                  rintro e v5 ⟨k5, rfl, hr5, st5⟩
                  have hB5 := hB4.trans (st5.mono hB4.size)
                  have P5 := hr5.imp (ok' := (fun z => w.heap.size + 1 ≤ z)) (by rintro z (h | h) _ <;> omega)
                  clear hr5
                  refine hK _ _ ⟨gb_some (gb_below hB5), ?_⟩
                  clear hK K
                  have hz5 : w.heap.size + 1 ≤ v5.heap.size := by have := st5.size; omega
                  have P2_5 := P2_4.below st5
                  have X1_5 := (st5.block _ (Array.getElem?_eq_some_iff.1 X1_4).1).trans X1_4
                  have X3_5 := (st5.block _ (Array.getElem?_eq_some_iff.1 X3_4).1).trans X3_4
                  have X4_5 := (st5.block _ (Array.getElem?_eq_some_iff.1 X4).1).trans X4
                  refine G_only 10 rfl (by kernel_rfl) ?_
                  intro K hK
                  go_simp
                  go_at_call 9
                  refine (fun1 (.app (.bnd 1) (.app (.app (.bnd 2) (.bnd 1)) (.bnd 0))) 3 (by omega) _ (fun z => w.heap.size + 1 ≤ z) k5 P5 ca.tm ka _ 1 (HW.out.1.below hB5) (at0_of_block X3_5)).mono ?_
                  rintro e v6 ⟨k6, rfl, hr6, st6⟩
                  have hB6 := hB5.trans (st6.mono hB5.size)
                  have P6 := hr6.imp (ok' := (fun z => w.heap.size + 1 ≤ z)) (by rintro z (h | h) _ <;> omega)
                  clear hr6
                  refine hK _ _ ⟨gb_some (gb_below hB6), ?_⟩
                  clear hK K
                  have hz6 : w.heap.size + 1 ≤ v6.heap.size := by have := st6.size; omega
                  have P2_6 := P2_5.below st6
                  have P5_6 := P5.below st6
                  have X1_6 := (st6.block _ (Array.getElem?_eq_some_iff.1 X1_5).1).trans X1_5
                  have X3_6 := (st6.block _ (Array.getElem?_eq_some_iff.1 X3_5).1).trans X3_5
                  have X4_6 := (st6.block _ (Array.getElem?_eq_some_iff.1 X4_5).1).trans X4_5
                  refine G_only 13 rfl (by kernel_rfl) ?_
                  intro K hK
                  have p7 := (hB6.block w.heap.size (by omega)).trans qR
                  have f0 := (cells_of_block p7).1
                  have f1 := (cells_of_block p7).2.1
                  have f2 := (cells_of_block p7).2.2.1
                  have f3 := (cells_of_block p7).2.2.2.1
                  have f4 := (cells_of_block p7).2.2.2.2.1
                  have f5 := (cells_of_block p7).2.2.2.2.2.1
                  have f6 := (cells_of_block p7).2.2.2.2.2.2.1
                  have f7 := (cells_of_block p7).2.2.2.2.2.2.2.1
                  have f8 := (cells_of_block p7).2.2.2.2.2.2.2.2
                  have fz := free_of_block p7
                  go_simp
                  obtain ⟨V, hV, n1, n2, hsz⟩ := nineE (.int .i64 k6.op) (.string k6.name) (.int .i64 k6.num) (.int .i64 0) (.string ⟨#[]⟩) (.int .i64 0) (.slice none 0 0) (.slice none 0 0) (.slice k6.A k6.n k6.c) p7
                  rw [hV]
                  refine hK _ _ ⟨tr_row (gb_some (gb_below hB6)) n2, ?_⟩
                  clear hK K hV f0 f1 f2 f3 f4 f5 f6 f7 f8 fz
                  refine G_last 14 rfl (by kernel_rfl) (by kernel_rfl) ?_
                  intro K hK
                  go_simp
                  refine hK _ _ ?_
                  clear hK K
                  go_wp2
                  refine end_rowt k6 (.int .i64 (IntKind.i64.wrap (ca.val + 1))) rfl (by rfl) (by rfl) rfl n1 ⟨.suc ca, k6, (by rw [wrap_small _ (by omega) (by omega)]; simp [L.C.val]), ⟨H2.out.1, by omega⟩, (by have := H2.out.2.1; simp only [L.C.high]; omega), ?_, ?_, ?_⟩
                  · exact (P6.grown n2 (by simp; omega)).imp (by omega)
                  · exact (HW.out.2.2.1.below hB6).grown n2 (by simp; omega)
                  · exact own_row (tr_row HW.out.2.2.2 (gb_some (gb_below hB6))) n2 (Nat.le_refl _)
              · skip
                intro K hK
                go_simp
                have st2 := alloc_below (v1) (Hd.obj ka)
                have X2 := new_at (v1) (Hd.obj ka) v1.heap.size rfl
                have hB2 := hB1.trans (st2.mono hB1.size)
                refine hK _ _ ⟨gb_some (gb_below hB2), ?_⟩
                clear hK K
                generalize hv2 : World.alloc (v1) _ = v2 at *
                clear hv2
                have hz2 : w.heap.size + 1 ≤ v2.heap.size := by have := st2.size; omega
                have X1_2 := (st2.block _ (Array.getElem?_eq_some_iff.1 X1).1).trans X1
                refine G_only 5 rfl (by kernel_rfl) ?_
                intro K hK
                go_simp
                go_at_call 7
                refine (apps2 (.bnd 2) (.bnd 1) (.bnd 0) _ (fun z => w.heap.size + 1 ≤ z) (⟨4, ⟨#[]⟩, 2, none, 0, 0⟩ : Hd) (⟨4, ⟨#[]⟩, 1, none, 0, 0⟩ : Hd) (⟨4, ⟨#[]⟩, 0, none, 0, 0⟩ : Hd) _ 2 (show Rep v2 (fun z => w.heap.size + 1 ≤ z) (.bnd 2) (⟨4, ⟨#[]⟩, 2, none, 0, 0⟩) from rfl) (show Rep v2 (fun z => w.heap.size + 1 ≤ z) (.bnd 1) (⟨4, ⟨#[]⟩, 1, none, 0, 0⟩) from rfl) (show Rep v2 (fun z => w.heap.size + 1 ≤ z) (.bnd 0) (⟨4, ⟨#[]⟩, 0, none, 0, 0⟩) from rfl) (at_of_obj2 X1_2).1 (at_of_obj2 X1_2).2).mono ?_
                rintro e v3 ⟨k3, rfl, hr3, st3⟩
                have hB3 := hB2.trans (st3.mono hB2.size)
                have P3 := hr3.imp (ok' := (fun z => w.heap.size + 1 ≤ z)) (by rintro z (h | h) _ <;> omega)
                clear hr3
                refine hK _ _ ⟨gb_some (gb_below hB3), ?_⟩
                clear hK K
                have hz3 : w.heap.size + 1 ≤ v3.heap.size := by have := st3.size; omega
                have X1_3 := (st3.block _ (Array.getElem?_eq_some_iff.1 X1_2).1).trans X1_2
                have X2_3 := (st3.block _ (Array.getElem?_eq_some_iff.1 X2).1).trans X2
                refine G_only 6 rfl (by kernel_rfl) ?_
                intro K hK
                go_simp
                have st4 := alloc_below (v3) (Hd.obj k3)
                have X4 := new_at (v3) (Hd.obj k3) v3.heap.size rfl
                have hB4 := hB3.trans (st4.mono hB3.size)
                refine hK _ _ ⟨gb_some (gb_below hB4), ?_⟩
                clear hK K
                generalize hv4 : World.alloc (v3) _ = v4 at *
                clear hv4
                have hz4 : w.heap.size + 1 ≤ v4.heap.size := by have := st4.size; omega
                have P3_4 := P3.below st4
                have X1_4 := (st4.block _ (Array.getElem?_eq_some_iff.1 X1_3).1).trans X1_3
                have X2_4 := (st4.block _ (Array.getElem?_eq_some_iff.1 X2_3).1).trans X2_3
                refine G_only 7 rfl (by kernel_rfl) ?_
                intro K hK
                go_simp
                go_at_call 7
                refine (apps1 (.bnd 1) (.app (.app (.bnd 2) (.bnd 1)) (.bnd 0)) _ (fun z => w.heap.size + 1 ≤ z) (⟨4, ⟨#[]⟩, 1, none, 0, 0⟩ : Hd) k3 _ 1 (show Rep v4 (fun z => w.heap.size + 1 ≤ z) (.bnd 1) (⟨4, ⟨#[]⟩, 1, none, 0, 0⟩) from rfl) P3_4 (at0_of_block X4)).mono ?_
                rintro e v5 ⟨k5, rfl, hr5, st5⟩
                have hB5 := hB4.trans (st5.mono hB4.size)
                have P5 := hr5.imp (ok' := (fun z => w.heap.size + 1 ≤ z)) (by rintro z (h | h) _ <;> omega)
                clear hr5
                refine hK _ _ ⟨gb_some (gb_below hB5), ?_⟩
                clear hK K
                have hz5 : w.heap.size + 1 ≤ v5.heap.size := by have := st5.size; omega
                have P3_5 := P3_4.below st5
                have X1_5 := (st5.block _ (Array.getElem?_eq_some_iff.1 X1_4).1).trans X1_4
                have X2_5 := (st5.block _ (Array.getElem?_eq_some_iff.1 X2_4).1).trans X2_4
                have X4_5 := (st5.block _ (Array.getElem?_eq_some_iff.1 X4).1).trans X4
                refine G_only 10 rfl (by kernel_rfl) ?_
                intro K hK
                go_simp
                go_at_call 9
                refine (fun1 (.app (.bnd 1) (.app (.app (.bnd 2) (.bnd 1)) (.bnd 0))) 3 (by omega) _ (fun z => w.heap.size + 1 ≤ z) k5 P5 ca.tm ka _ 1 (HW.out.1.below hB5) (at0_of_block X2_5)).mono ?_
                rintro e v6 ⟨k6, rfl, hr6, st6⟩
                have hB6 := hB5.trans (st6.mono hB5.size)
                have P6 := hr6.imp (ok' := (fun z => w.heap.size + 1 ≤ z)) (by rintro z (h | h) _ <;> omega)
                clear hr6
                refine hK _ _ ⟨gb_some (gb_below hB6), ?_⟩
                clear hK K
                have hz6 : w.heap.size + 1 ≤ v6.heap.size := by have := st6.size; omega
                have P3_6 := P3_5.below st6
                have P5_6 := P5.below st6
                have X1_6 := (st6.block _ (Array.getElem?_eq_some_iff.1 X1_5).1).trans X1_5
                have X2_6 := (st6.block _ (Array.getElem?_eq_some_iff.1 X2_5).1).trans X2_5
                have X4_6 := (st6.block _ (Array.getElem?_eq_some_iff.1 X4_5).1).trans X4_5
                refine G_only 13 rfl (by kernel_rfl) ?_
                intro K hK
                have p7 := (hB6.block w.heap.size (by omega)).trans qR
                have f0 := (cells_of_block p7).1
                have f1 := (cells_of_block p7).2.1
                have f2 := (cells_of_block p7).2.2.1
                have f3 := (cells_of_block p7).2.2.2.1
                have f4 := (cells_of_block p7).2.2.2.2.1
                have f5 := (cells_of_block p7).2.2.2.2.2.1
                have f6 := (cells_of_block p7).2.2.2.2.2.2.1
                have f7 := (cells_of_block p7).2.2.2.2.2.2.2.1
                have f8 := (cells_of_block p7).2.2.2.2.2.2.2.2
                have fz := free_of_block p7
                go_simp
                obtain ⟨V, hV, n1, n2, hsz⟩ := nineE (.int .i64 k6.op) (.string k6.name) (.int .i64 k6.num) (.int .i64 0) (.string ⟨#[]⟩) (.int .i64 0) (.slice none 0 0) (.slice none 0 0) (.slice k6.A k6.n k6.c) p7
                rw [hV]
                refine hK _ _ ⟨tr_row (gb_some (gb_below hB6)) n2, ?_⟩
                clear hK K hV f0 f1 f2 f3 f4 f5 f6 f7 f8 fz
                refine G_last 14 rfl (by kernel_rfl) (by kernel_rfl) ?_
                intro K hK
                go_simp
                refine hK _ _ ?_
                clear hK K
                go_wp2
                refine end_rowt k6 (.int .i64 (IntKind.i64.wrap (ca.val + 1))) rfl (by rfl) (by rfl) rfl n1 ⟨.suc ca, k6, (by rw [wrap_small _ (by omega) (by omega)]; simp [L.C.val]), ⟨H2.out.1, by omega⟩, (by have := H2.out.2.1; simp only [L.C.high]; omega), ?_, ?_, ?_⟩
                · exact (P6.grown n2 (by simp; omega)).imp (by omega)
                · exact (HW.out.2.2.1.below hB6).grown n2 (by simp; omega)
                · exact own_row (tr_row HW.out.2.2.2 (gb_some (gb_below hB6))) n2 (Nat.le_refl _)
            · skip
              intro K hK
              go_simp
              have st1 := alloc_below (v0) (Hd.obj ka)
              have X1 := new_at (v0) (Hd.obj ka) v0.heap.size rfl
              have hB1 := hB0.trans (st1.mono hB0.size)
              refine hK _ _ ⟨gb_some (gb_below hB1), ?_⟩
              clear hK K
              generalize hv1 : World.alloc (v0) _ = v1 at *
              clear hv1
              have hz1 : w.heap.size + 1 ≤ v1.heap.size := by have := st1.size; omega
              refine G_only 4 rfl (by kernel_rfl) ?_
              intro K hK
              go_simp
              have st2 := alloc_below (v1) (Hd.obj2 ⟨4, ⟨#[]⟩, 1, none, 0, 0⟩ ⟨4, ⟨#[]⟩, 0, none, 0, 0⟩)
              have X2 := new_at (v1) (Hd.obj2 ⟨4, ⟨#[]⟩, 1, none, 0, 0⟩ ⟨4, ⟨#[]⟩, 0, none, 0, 0⟩) v1.heap.size rfl
              have hB2 := hB1.trans (st2.mono hB1.size)
              refine hK _ _ ⟨gb_some (gb_below hB2), ?_⟩
              clear hK K
              generalize hv2 : World.alloc (v1) _ = v2 at *
              clear hv2
              have hz2 : w.heap.size + 1 ≤ v2.heap.size := by have := st2.size; omega
              have X1_2 := (st2.block _ (Array.getElem?_eq_some_iff.1 X1).1).trans X1
              refine G_only 5 rfl (by kernel_rfl) ?_
              intro K hK
              go_simp
              go_at_call 7
              refine (apps2 (.bnd 2) (.bnd 1) (.bnd 0) _ (fun z => w.heap.size + 1 ≤ z) (⟨4, ⟨#[]⟩, 2, none, 0, 0⟩ : Hd) (⟨4, ⟨#[]⟩, 1, none, 0, 0⟩ : Hd) (⟨4, ⟨#[]⟩, 0, none, 0, 0⟩ : Hd) _ 2 (show Rep v2 (fun z => w.heap.size + 1 ≤ z) (.bnd 2) (⟨4, ⟨#[]⟩, 2, none, 0, 0⟩) from rfl) (show Rep v2 (fun z => w.heap.size + 1 ≤ z) (.bnd 1) (⟨4, ⟨#[]⟩, 1, none, 0, 0⟩) from rfl) (show Rep v2 (fun z => w.heap.size + 1 ≤ z) (.bnd 0) (⟨4, ⟨#[]⟩, 0, none, 0, 0⟩) from rfl) (at_of_obj2 X2).1 (at_of_obj2 X2).2).mono ?_
              rintro e v3 ⟨k3, rfl, hr3, st3⟩
              have hB3 := hB2.trans (st3.mono hB2.size)
              have P3 := hr3.imp (ok' := (fun z => w.heap.size + 1 ≤ z)) (by rintro z (h | h) _ <;> omega)
              clear hr3
              refine hK _ _ ⟨gb_some (gb_below hB3), ?_⟩
              clear hK K
              have hz3 : w.heap.size + 1 ≤ v3.heap.size := by have := st3.size; omega
              have X1_3 := (st3.block _ (Array.getElem?_eq_some_iff.1 X1_2).1).trans X1_2
              have X2_3 := (st3.block _ (Array.getElem?_eq_some_iff.1 X2).1).trans X2
              refine G_only 6 rfl (by kernel_rfl) ?_
              intro K hK
              go_simp
              have st4 := alloc_below (v3) (Hd.obj k3)
              have X4 := new_at (v3) (Hd.obj k3) v3.heap.size rfl
              have hB4 := hB3.trans (st4.mono hB3.size)
              refine hK _ _ ⟨gb_some (gb_below hB4), ?_⟩
              clear hK K
              generalize hv4 : World.alloc (v3) _ = v4 at *
              clear hv4
              have hz4 : w.heap.size + 1 ≤ v4.heap.size := by have := st4.size; omega
              have P3_4 := P3.below st4
              have X1_4 := (st4.block _ (Array.getElem?_eq_some_iff.1 X1_3).1).trans X1_3
              have X2_4 := (st4.block _ (Array.getElem?_eq_some_iff.1 X2_3).1).trans X2_3
              refine G_only 7 rfl (by kernel_rfl) ?_
              intro K hK
              go_simp
              go_at_call 7
              refine (apps1 (.bnd 1) (.app (.app (.bnd 2) (.bnd 1)) (.bnd 0)) _ (fun z => w.heap.size + 1 ≤ z) (⟨4, ⟨#[]⟩, 1, none, 0, 0⟩ : Hd) k3 _ 1 (show Rep v4 (fun z => w.heap.size + 1 ≤ z) (.bnd 1) (⟨4, ⟨#[]⟩, 1, none, 0, 0⟩) from rfl) P3_4 (at0_of_block X4)).mono ?_
              rintro e v5 ⟨k5, rfl, hr5, st5⟩
              have hB5 := hB4.trans (st5.mono hB4.size)
              have P5 := hr5.imp (ok' := (fun z => w.heap.size + 1 ≤ z)) (by rintro z (h | h) _ <;> omega)
              clear hr5
              refine hK _ _ ⟨gb_some (gb_below hB5), ?_⟩
              clear hK K
              have hz5 : w.heap.size + 1 ≤ v5.heap.size := by have := st5.size; omega
              have P3_5 := P3_4.below st5
              have X1_5 := (st5.block _ (Array.getElem?_eq_some_iff.1 X1_4).1).trans X1_4
              have X2_5 := (st5.block _ (Array.getElem?_eq_some_iff.1 X2_4).1).trans X2_4
              have X4_5 := (st5.block _ (Array.getElem?_eq_some_iff.1 X4).1).trans X4
              refine G_only 10 rfl (by kernel_rfl) ?_
              intro K hK
              go_simp
              go_at_call 9
              refine (fun1 (.app (.bnd 1) (.app (.app (.bnd 2) (.bnd 1)) (.bnd 0))) 3 (by omega) _ (fun z => w.heap.size + 1 ≤ z) k5 P5 ca.tm ka _ 1 (HW.out.1.below hB5) (at0_of_block X1_5)).mono ?_
              rintro e v6 ⟨k6, rfl, hr6, st6⟩
              have hB6 := hB5.trans (st6.mono hB5.size)
              have P6 := hr6.imp (ok' := (fun z => w.heap.size + 1 ≤ z)) (by rintro z (h | h) _ <;> omega)
              clear hr6
              refine hK _ _ ⟨gb_some (gb_below hB6), ?_⟩
              clear hK K
              have hz6 : w.heap.size + 1 ≤ v6.heap.size := by have := st6.size; omega
              have P3_6 := P3_5.below st6
              have P5_6 := P5.below st6
              have X1_6 := (st6.block _ (Array.getElem?_eq_some_iff.1 X1_5).1).trans X1_5
              have X2_6 := (st6.block _ (Array.getElem?_eq_some_iff.1 X2_5).1).trans X2_5
              have X4_6 := (st6.block _ (Array.getElem?_eq_some_iff.1 X4_5).1).trans X4_5
              refine G_only 13 rfl (by kernel_rfl) ?_
              intro K hK
              have p7 := (hB6.block w.heap.size (by omega)).trans qR
              have f0 := (cells_of_block p7).1
              have f1 := (cells_of_block p7).2.1
              have f2 := (cells_of_block p7).2.2.1
              have f3 := (cells_of_block p7).2.2.2.1
              have f4 := (cells_of_block p7).2.2.2.2.1
              have f5 := (cells_of_block p7).2.2.2.2.2.1
              have f6 := (cells_of_block p7).2.2.2.2.2.2.1
              have f7 := (cells_of_block p7).2.2.2.2.2.2.2.1
              have f8 := (cells_of_block p7).2.2.2.2.2.2.2.2
              have fz := free_of_block p7
              go_simp
              obtain ⟨V, hV, n1, n2, hsz⟩ := nineE (.int .i64 k6.op) (.string k6.name) (.int .i64 k6.num) (.int .i64 0) (.string ⟨#[]⟩) (.int .i64 0) (.slice none 0 0) (.slice none 0 0) (.slice k6.A k6.n k6.c) p7
              rw [hV]
              refine hK _ _ ⟨tr_row (gb_some (gb_below hB6)) n2, ?_⟩
              clear hK K hV f0 f1 f2 f3 f4 f5 f6 f7 f8 fz
              refine G_last 14 rfl (by kernel_rfl) (by kernel_rfl) ?_
              intro K hK
              go_simp
              refine hK _ _ ?_
              clear hK K
              go_wp2
              refine end_rowt k6 (.int .i64 (IntKind.i64.wrap (ca.val + 1))) rfl (by rfl) (by rfl) rfl n1 ⟨.suc ca, k6, (by rw [wrap_small _ (by omega) (by omega)]; simp [L.C.val]), ⟨H2.out.1, by omega⟩, (by have := H2.out.2.1; simp only [L.C.high]; omega), ?_, ?_, ?_⟩
              · exact (P6.grown n2 (by simp; omega)).imp (by omega)
              · exact (HW.out.2.2.1.below hB6).grown n2 (by simp; omega)
              · exact own_row (tr_row HW.out.2.2.2 (gb_some (gb_below hB6))) n2 (Nat.le_refl _)
          · skip
            obtain ⟨la1, la2, la3, la4, _, _⟩ := lts (show w.heap.size < w7.heap.size by omega)
            obtain ⟨lb1, lb2, lb3, lb4, _, _⟩ := lts (show w3.heap.size < w7.heap.size by omega)
            have la0 : w.heap.size < w7.heap.size := by omega
            have lb0 : w3.heap.size < w7.heap.size := by omega
            have f0 := (cells_of_block H7.out.2.1).1
            have f1 := (cells_of_block H7.out.2.1).2.1
            have f2 := (cells_of_block H7.out.2.1).2.2.1
            have f3 := (cells_of_block H7.out.2.1).2.2.2.1
            have f4 := (cells_of_block H7.out.2.1).2.2.2.2.1
            have f5 := (cells_of_block H7.out.2.1).2.2.2.2.2.1
            have f6 := (cells_of_block H7.out.2.1).2.2.2.2.2.2.1
            have f7 := (cells_of_block H7.out.2.1).2.2.2.2.2.2.2.1
            have f8 := (cells_of_block H7.out.2.1).2.2.2.2.2.2.2.2
            have e0 := (cells_of_block H7.out.2.2.2).1
            have e1 := (cells_of_block H7.out.2.2.2).2.1
            have e2 := (cells_of_block H7.out.2.2.2).2.2.1
            have e3 := (cells_of_block H7.out.2.2.2).2.2.2.1
            have e4 := (cells_of_block H7.out.2.2.2).2.2.2.2.1
            have e5 := (cells_of_block H7.out.2.2.2).2.2.2.2.2.1
            have e6 := (cells_of_block H7.out.2.2.2).2.2.2.2.2.2.1
            have e7 := (cells_of_block H7.out.2.2.2).2.2.2.2.2.2.2.1
            have e8 := (cells_of_block H7.out.2.2.2).2.2.2.2.2.2.2.2
            have fz := free_of_block H7.out.2.1
            go_wp2
            have hB4 := below4 w7 (Hd.obj ⟨4, ⟨#[]⟩, 0, none, 0, 0⟩) (Hd.obj ⟨4, ⟨#[]⟩, 1, none, 0, 0⟩) (Hd.obj ⟨4, ⟨#[]⟩, 2, none, 0, 0⟩) (Hd.obj ⟨4, ⟨#[]⟩, 3, none, 0, 0⟩)
            obtain ⟨V, hV, n1, n2, hsz⟩ := nineE (.int .i64 kb.op) (.string kb.name) (.int .i64 kb.num) (.int .i64 0) (.string ⟨#[]⟩) (.int .i64 0) (.slice none 0 0) (.slice none 0 0) (.slice kb.A kb.n kb.c) H7.out.2.1
            rw [hV]
            clear hV f0 f1 f2 f3 f4 f5 f6 f7 f8 fz e0 e1 e2 e3 e4 e5 e6 e7 e8
            have hb4 := below4 V (Hd.obj ⟨4, ⟨#[]⟩, 0, none, 0, 0⟩) (Hd.obj ⟨4, ⟨#[]⟩, 1, none, 0, 0⟩) (Hd.obj ⟨4, ⟨#[]⟩, 2, none, 0, 0⟩) (Hd.obj ⟨4, ⟨#[]⟩, 3, none, 0, 0⟩)
            refine end_rowt kb (.int .i64 cb.val) rfl (by rfl) (by rfl) rfl ((hb4.block _ (by omega)).trans n1) ⟨cb, kb, rfl, H3.out.1, by have := H3.out.2.1; omega, ?_, ?_, ?_⟩
            · exact ((((H3.out.2.2.1.below (alloc_below w3 kb.obj)).below H7.out.1).grown n2 (by simp; omega)).below hb4).imp (by simp; omega)
            · exact (((((H3.out.2.2.2.1.below (alloc_below w3 kb.obj)).below H7.out.1)).grown n2 (by simp; omega))).below hb4
            · exact tr_row (own_row (tr_row (tr_row H1.out.2.2 H2.out.2.2.2.2.1) (tr_row (gb_some (gb_alloc w2 ka.obj)) (tr_row H3.out.2.2.2.2.1 (gb_some (gb_trans (gb_alloc w3 kb.obj) (gb_below H7.out.1)))))) n2 (Nat.le_refl _)) (gb_some (gb_below hb4))
        · have q5 : ((r : Int) == 5) = true := by
            simp at q3 q4 hl' ⊢; omega
          by_cases k40 : (0 : Int) < ca.val
          · go_wp2_with fail
            refine gen4 ?_
            intro W hbW hsW g0 g1 g2 g3
            have qR := (hbW.block w.heap.size (by omega)).trans H7.out.2.1
            have qa := (hbW.block w2.heap.size (by omega)).trans H7.out.2.2.1
            have qb := (hbW.block w3.heap.size (by omega)).trans H7.out.2.2.2
            have RA : Rep W (fun z => w.heap.size + 1 ≤ z) ca.tm ka := ((((((H2.out.2.2.1.below (alloc_below w2 ka.obj)).grown H3.out.2.2.2.2.1 (by simp; omega)).below (alloc_below w3 kb.obj)).below H7.out.1).below hbW)).imp (by omega)
            have RB : Rep W (fun z => w.heap.size + 1 ≤ z) cb.tm kb := (((H3.out.2.2.1.below (alloc_below w3 kb.obj)).below H7.out.1).below hbW).imp (by simp; omega)
            have TW : Tile W g := ((H3.out.2.2.2.1.below (alloc_below w3 kb.obj)).below H7.out.1).below hbW
            have GW : w.grownBy W (some g) := tr_row (tr_row H1.out.2.2 H2.out.2.2.2.2.1) (tr_row (gb_some (gb_alloc w2 ka.obj)) (tr_row H3.out.2.2.2.2.1 (gb_some (gb_trans (gb_alloc w3 kb.obj) (gb_trans (gb_below H7.out.1) (gb_below hbW))))))
            have hsW1 : w7.heap.size + 4 ≤ W.heap.size := by omega
            clear hsW
            have HW := Lib.hid (And.intro RA (And.intro RB (And.intro TW GW)))
            clear RA RB TW GW hbW
            refine G_begin (fun w' => W.grownBy w' (some w.heap.size)) (by kernel_rfl) ?_
            have hB0 : Below W.heap.size W W.drew := (Below.refl _ _).drew
            generalize hv0 : World.drew W = v0 at *
            clear hv0
            have hz0 : w.heap.size + 1 ≤ v0.heap.size := by have := hB0.size; omega
            refine G_take 0 9 rfl (by kernel_rfl) (fun _ _ _ h => h) (gb_some (gb_below hB0)) (v := ?_) (.inl ⟨by rfl, ?_⟩) ?_
            rotate_left
            · intro w' hw'; obtain ⟨e0, e1, e2, e3, e4, e5, e6, e7, e8⟩ := cells_of_block ((hw'.block (w2.heap.size) (by omega) (by simp; omega)).trans qa); go_simp; try with_reducible rfl
            refine G_take 1 9 rfl (by kernel_rfl) (fun _ _ _ h => h) (gb_some (gb_below hB0)) (v := ?_) (.inl ⟨by rfl, ?_⟩) ?_
            rotate_left
            · intro w' hw'; obtain ⟨e0, e1, e2, e3, e4, e5, e6, e7, e8⟩ := cells_of_block ((hw'.block (w3.heap.size) (by omega) (by simp; omega)).trans qb); go_simp; try with_reducible rfl
            refine G_take 7 9 rfl (by kernel_rfl) (fun _ _ _ h => h) (gb_some (gb_below hB0)) (v := ?_) (.inl ⟨by rfl, ?_⟩) ?_
            rotate_left
            · intro w' hw'; go_simp; try with_reducible rfl
            refine G_only 2 rfl (by kernel_rfl) ?_
            intro K hK
            go_simp
            go_at_call 10
            refine (lift_calls cb.tm 1 (by omega) 0 (most_tm _ H3.out.1 (by have := H3.out.2.1; omega)).1 (most_tm _ H3.out.1 (by have := H3.out.2.1; omega)).2 _ (fun z => w.heap.size + 1 ≤ z) kb 0 rfl (HW.out.2.1.below hB0)).mono ?_
            rintro e v1 ⟨k1, rfl, hr1, st1⟩
            have hB1 := hB0.trans (st1.mono hB0.size)
            have P1 := hr1.imp (ok' := (fun z => w.heap.size + 1 ≤ z)) (by rintro z (h | h) _ <;> omega)
            clear hr1
            refine hK _ _ ⟨gb_some (gb_below hB1), ?_⟩
            clear hK K
            have hz1 : w.heap.size + 1 ≤ v1.heap.size := by have := st1.size; omega
            refine G_only 3 rfl (by kernel_rfl) ?_
            intro K hK
            go_simp
            go_at_call 9
            refine (fun0 (cb.tm.lift 1 0) 1 (by omega) _ (fun z => w.heap.size + 1 ≤ z) k1 P1).mono ?_
            rintro e v2 ⟨k2, rfl, hr2, st2⟩
            have hB2 := hB1.trans (st2.mono hB1.size)
            have P2 := hr2.imp (ok' := (fun z => w.heap.size + 1 ≤ z)) (by rintro z (h | h) _ <;> omega)
            clear hr2
            refine hK _ _ ⟨gb_some (gb_below hB2), ?_⟩
            clear hK K
            have hz2 : w.heap.size + 1 ≤ v2.heap.size := by have := st2.size; omega
            have P1_2 := P1.below st2
            refine G_only 4 rfl (by kernel_rfl) ?_
            intro K hK
            go_simp
            go_at_call 16
            refine (num_calls 0 (by omega) _ (fun z => w.heap.size + 1 ≤ z)).mono ?_
            rintro e v3 ⟨k3, rfl, hr3, st3⟩
            have hB3 := hB2.trans (st3.mono hB2.size)
            have P3 := hr3.imp (ok' := (fun z => w.heap.size + 1 ≤ z)) (by rintro z (h | h) _ <;> omega)
            clear hr3
            refine hK _ _ ⟨gb_some (gb_below hB3), ?_⟩
            clear hK K
            have hz3 : w.heap.size + 1 ≤ v3.heap.size := by have := st3.size; omega
            have P1_3 := P1_2.below st3
            have P2_3 := P2.below st3
            refine G_only 5 rfl (by kernel_rfl) ?_
            intro K hK
            go_simp
            have st4 := alloc_below (v3) (Hd.obj2 k2 k3)
            have X4 := new_at (v3) (Hd.obj2 k2 k3) v3.heap.size rfl
            have hB4 := hB3.trans (st4.mono hB3.size)
            refine hK _ _ ⟨gb_some (gb_below hB4), ?_⟩
            clear hK K
            generalize hv4 : World.alloc (v3) _ = v4 at *
            clear hv4
            have hz4 : w.heap.size + 1 ≤ v4.heap.size := by have := st4.size; omega
            have P1_4 := P1_3.below st4
            have P2_4 := P2_3.below st4
            have P3_4 := P3.below st4
            refine G_only 6 rfl (by kernel_rfl) ?_
            intro K hK
            go_simp
            go_at_call 7
            refine (apps2 ca.tm ((cb.tm.lift 1 0).absN 1) (.num 0) _ (fun z => w.heap.size + 1 ≤ z) ka k2 k3 _ 2 (HW.out.1.below hB4) P2_4 P3_4 (at_of_obj2 X4).1 (at_of_obj2 X4).2).mono ?_
            rintro e v5 ⟨k5, rfl, hr5, st5⟩
            have hB5 := hB4.trans (st5.mono hB4.size)
            have P5 := hr5.imp (ok' := (fun z => w.heap.size + 1 ≤ z)) (by rintro z (h | h) _ <;> omega)
            clear hr5
            refine hK _ _ ⟨gb_some (gb_below hB5), ?_⟩
            clear hK K
            have hz5 : w.heap.size + 1 ≤ v5.heap.size := by have := st5.size; omega
            have P1_5 := P1_4.below st5
            have P2_5 := P2_4.below st5
            have P3_5 := P3_4.below st5
            have X4_5 := (st5.block _ (Array.getElem?_eq_some_iff.1 X4).1).trans X4
            refine G_only 8 rfl (by kernel_rfl) ?_
            intro K hK
            have p6 := (hB5.block w.heap.size (by omega)).trans qR
            have f0 := (cells_of_block p6).1
            have f1 := (cells_of_block p6).2.1
            have f2 := (cells_of_block p6).2.2.1
            have f3 := (cells_of_block p6).2.2.2.1
            have f4 := (cells_of_block p6).2.2.2.2.1
            have f5 := (cells_of_block p6).2.2.2.2.2.1
            have f6 := (cells_of_block p6).2.2.2.2.2.2.1
            have f7 := (cells_of_block p6).2.2.2.2.2.2.2.1
            have f8 := (cells_of_block p6).2.2.2.2.2.2.2.2
            have fz := free_of_block p6
            go_simp
            obtain ⟨V, hV, n1, n2, hsz⟩ := nineE (.int .i64 k5.op) (.string k5.name) (.int .i64 k5.num) (.int .i64 0) (.string ⟨#[]⟩) (.int .i64 0) (.slice none 0 0) (.slice none 0 0) (.slice k5.A k5.n k5.c) p6
            rw [hV]
            refine hK _ _ ⟨tr_row (gb_some (gb_below hB5)) n2, ?_⟩
            clear hK K hV f0 f1 f2 f3 f4 f5 f6 f7 f8 fz
            refine G_last 9 rfl (by kernel_rfl) (by kernel_rfl) ?_
            intro K hK
            go_simp
            refine hK _ _ ?_
            clear hK K
            go_wp2
            refine end_rowt k5 (.int .i64 cb.val) rfl (by rfl) (by rfl) rfl n1 ⟨.cho ca cb, k5, rfl, ⟨H2.out.1, H3.out.1, by omega⟩, (by have := H2.out.2.1; have := H3.out.2.1; simp only [L.C.high]; omega), ?_, ?_, ?_⟩
            · exact (P5.grown n2 (by simp; omega)).imp (by omega)
            · exact (HW.out.2.2.1.below hB5).grown n2 (by simp; omega)
            · exact own_row (tr_row HW.out.2.2.2 (gb_some (gb_below hB5))) n2 (Nat.le_refl _)
          · skip
            obtain ⟨la1, la2, la3, la4, _, _⟩ := lts (show w.heap.size < w7.heap.size by omega)
            obtain ⟨lb1, lb2, lb3, lb4, _, _⟩ := lts (show w3.heap.size < w7.heap.size by omega)
            have la0 : w.heap.size < w7.heap.size := by omega
            have lb0 : w3.heap.size < w7.heap.size := by omega
            have f0 := (cells_of_block H7.out.2.1).1
            have f1 := (cells_of_block H7.out.2.1).2.1
            have f2 := (cells_of_block H7.out.2.1).2.2.1
            have f3 := (cells_of_block H7.out.2.1).2.2.2.1
            have f4 := (cells_of_block H7.out.2.1).2.2.2.2.1
            have f5 := (cells_of_block H7.out.2.1).2.2.2.2.2.1
            have f6 := (cells_of_block H7.out.2.1).2.2.2.2.2.2.1
            have f7 := (cells_of_block H7.out.2.1).2.2.2.2.2.2.2.1
            have f8 := (cells_of_block H7.out.2.1).2.2.2.2.2.2.2.2
            have e0 := (cells_of_block H7.out.2.2.2).1
            have e1 := (cells_of_block H7.out.2.2.2).2.1
            have e2 := (cells_of_block H7.out.2.2.2).2.2.1
            have e3 := (cells_of_block H7.out.2.2.2).2.2.2.1
            have e4 := (cells_of_block H7.out.2.2.2).2.2.2.2.1
            have e5 := (cells_of_block H7.out.2.2.2).2.2.2.2.2.1
            have e6 := (cells_of_block H7.out.2.2.2).2.2.2.2.2.2.1
            have e7 := (cells_of_block H7.out.2.2.2).2.2.2.2.2.2.2.1
            have e8 := (cells_of_block H7.out.2.2.2).2.2.2.2.2.2.2.2
            have fz := free_of_block H7.out.2.1
            go_wp2
            have hB4 := below4 w7 (Hd.obj ⟨4, ⟨#[]⟩, 0, none, 0, 0⟩) (Hd.obj ⟨4, ⟨#[]⟩, 1, none, 0, 0⟩) (Hd.obj ⟨4, ⟨#[]⟩, 2, none, 0, 0⟩) (Hd.obj ⟨4, ⟨#[]⟩, 3, none, 0, 0⟩)
            obtain ⟨V, hV, n1, n2, hsz⟩ := nineE (.int .i64 kb.op) (.string kb.name) (.int .i64 kb.num) (.int .i64 0) (.string ⟨#[]⟩) (.int .i64 0) (.slice none 0 0) (.slice none 0 0) (.slice kb.A kb.n kb.c) H7.out.2.1
            rw [hV]
            clear hV f0 f1 f2 f3 f4 f5 f6 f7 f8 fz e0 e1 e2 e3 e4 e5 e6 e7 e8
            have hb4 := below4 V (Hd.obj ⟨4, ⟨#[]⟩, 0, none, 0, 0⟩) (Hd.obj ⟨4, ⟨#[]⟩, 1, none, 0, 0⟩) (Hd.obj ⟨4, ⟨#[]⟩, 2, none, 0, 0⟩) (Hd.obj ⟨4, ⟨#[]⟩, 3, none, 0, 0⟩)
            refine end_rowt kb (.int .i64 cb.val) rfl (by rfl) (by rfl) rfl ((hb4.block _ (by omega)).trans n1) ⟨cb, kb, rfl, H3.out.1, by have := H3.out.2.1; omega, ?_, ?_, ?_⟩
            · exact ((((H3.out.2.2.1.below (alloc_below w3 kb.obj)).below H7.out.1).grown n2 (by simp; omega)).below hb4).imp (by simp; omega)
            · exact (((((H3.out.2.2.2.1.below (alloc_below w3 kb.obj)).below H7.out.1)).grown n2 (by simp; omega))).below hb4
            · exact tr_row (own_row (tr_row (tr_row H1.out.2.2 H2.out.2.2.2.2.1) (tr_row (gb_some (gb_alloc w2 ka.obj)) (tr_row H3.out.2.2.2.2.1 (gb_some (gb_trans (gb_alloc w3 kb.obj) (gb_below H7.out.1)))))) n2 (Nat.le_refl _)) (gb_some (gb_below hb4))

theorem count_calls (deep : Nat) : deep ≤ 3 → ∀ (w : World) (g : Nat) (i : Int), i = deep → g < w.heap.size → Tile w g → Calls Try.prog 5 #[.pointer (some ⟨g, 0, none⟩), .int .i64 i] w (Counted w g deep) := by
  induction deep using Nat.strongRecOn with
  | _ deep ih =>
    intro hd w g i hi hg ht
    subst hi
    exact count_step w g deep hg ht hd (fun d hdd w i hi hg ht => ih d hdd (by omega) w g i hi hg ht)

end Go.Proofs.Ytogdjjleclbgcaa
