/- term.Size and term.large. -/
import Derived.Test.YtogdjjleclbgcaaNodes
import Derived.Laws.EntriesVeiled
import Derived.BigRegionIn
namespace Go.Proofs.Ytogdjjleclbgcaa
open Go.RowKit Go.Shelf
attribute [local go_sem] Oper.semAt_some

theorem deps_length (t : L) (d : Nat) : (deps t d).length = t.size := by
  induction t generalizing d with
  | abs b ih => simp [deps, L.size, ih]
  | app f a ih1 ih2 => simp [deps, L.size, ih1, ih2]
  | _ => rfl
def md (l : List Nat) : Nat := l.foldl max 0
theorem foldl_max (l : List Nat) (a : Nat) : l.foldl max a = max a (md l) := by
  induction l generalizing a with
  | nil => simp [md]
  | cons x xs ih => simp only [md, List.foldl_cons]; rw [ih, ih (max 0 x)]; omega
theorem md_append (l m : List Nat) : md (l ++ m) = max (md l) (md m) := by simp only [md, List.foldl_append]; rw [foldl_max]; rfl
theorem md_cons (x : Nat) (l : List Nat) : md (x :: l) = max x (md l) := by simp only [md, List.foldl_cons]; rw [foldl_max]; simp [md]
theorem deps_md (t : L) (d : Nat) : md (deps t d) + 1 = d + t.depth := by
  induction t generalizing d with
  | abs b ih => have := ih (d + 1); simp only [deps, L.depth, md_cons]; omega
  | app f a ih1 ih2 => have := ih1 (d + 1); have := ih2 (d + 1); simp only [deps, L.depth, md_cons, md_append]; omega
  | _ => simp [deps, L.depth, md]

set_option maxRecDepth 100000 in
set_option maxHeartbeats 800000 in
theorem nodes_iter (m n B l : Nat) (t : L) (hd : t.depth < 900000) (ok : Nat → Prop) (hok : ∀ z, ok z → z < n) (W : World) (hB : B ≤ W.heap.size) (T : Nat) (k : Hd) (hT : W.heap[T]? = some k.obj) (hr : Rep W ok t k) :
    Iterates Try.prog m 44 #[.pointer (some ⟨T, 0, none⟩)] Node.encs n B l (fun xs => xs.map (·.2.1) = deps t 1) W := by
  intro J hJ hY h0
  have hTl : T < W.heap.size := (Array.getElem?_eq_some_iff.1 hT).1
  obtain ⟨T1, T2, T3, T4, T5, T6⟩ := lts hTl
  obtain ⟨e0, e1, e2, e3, e4, e5, e6, e7, e8⟩ := cells_of_block hT
  have HK := Lib.hid (And.intro hr (And.intro hJ (And.intro hY (And.intro h0 hok))))
  clear hr hJ hY h0 hok hT
  refine callsIn_of_wp Try.func44 rfl trivial ?_ rfl
  simp only [Try.ntmps44, List.size_toArray, List.length_cons, List.length_nil, Nat.reduceAdd, Nat.reduceSub, Array.replicate_succ, Array.replicate_zero, List.push_toArray, List.append_toArray, List.nil_append, List.cons_append]
  gi_wp2
  clear e0 e1 e2 e3 e4 e5 e6 e7 e8
  obtain ⟨hr, hJ, hY, h0, hok⟩ := HK.out
  have hb := below2 W (.cells #[.func (.yield l) #[] #[]] 83) (.cells #[.func (.func 45) #[] #[.pointer (some ⟨W.heap.size, 0, none⟩), .pointer (some ⟨W.heap.size + 1, 0, none⟩)]] 83)
  refine ⟨trivial, fun h => (by cases h), ?_⟩
  refine (walks_in l n B J hJ hY ok hok W.heap.size (W.heap.size + 1) hB (by omega) t (m - 1) 1 0 [] _ k (by omega) (by omega) (hr.below hb)
    (cell_of_row _ _ 0 _ _ _ (hp2a W _ _)) (cell_of_row _ _ 0 _ _ _ (heap2 W _ _)) (hJ _ _ _ none h0 (gb_below hb) (by simp))).mono ?_
  rintro e W4 ⟨rfl, ⟨q, hq, hJ4⟩, hk4⟩
  have HE := Lib.hid (And.intro hq hJ4)
  clear hq hJ4 hk4
  gi_wp2
  go_end0
  exact ⟨⟨_, rfl⟩, q, HE.out⟩

set_option maxRecDepth 100000 in
set_option maxHeartbeats 800000 in
theorem nodes_calls (k : Hd) (w : World) : Calls Try.prog 38 #[k.val] w (fun e w' => e = .returned (.func (.func 44) #[] #[.pointer (some ⟨w.heap.size, 0, none⟩)]) ∧ w' = w.alloc k.obj) := by
  have hmf : ∀ (fn : Fn) (first cap : Array Value) (w : World), (Instr.makeFunc fn first cap).run Try.prog w = .ok (.func fn first cap) w := fun _ _ _ _ => rfl
  go_enter Try.func38, Try.ntmps38
  go_wp2
  go_ret
  exact ⟨rfl, rfl⟩

theorem wrap_succ (a : Nat) : wrap64 (wrap64 a + 1) = wrap64 ((a + (0 + 1) : Nat)) := by
  unfold wrap64; push_cast; omega

theorem two_cells {w W : World} {B : Nat} {c0 d0 c d c' d' : Int} (hB : w.heap.size + 1 + 1 < B) (h1 : W.heap[w.heap.size + 1]? = some (.cells #[.int .i64 c0] 3 (0, 0))) (h2 : W.heap[w.heap.size + 1 + 1]? = some (.cells #[.int .i64 d0] 3 (0, 0))) (h3 : Below w.heap.size w W)
    (hc : c = c') (hd : d = d') :
    RKept w.heap.size B W ((W.setCell ⟨w.heap.size + 1, 0, none⟩ (.int .i64 c)).setCell ⟨w.heap.size + 1 + 1, 0, none⟩ (.int .i64 d)) ∧
    ((W.setCell ⟨w.heap.size + 1, 0, none⟩ (.int .i64 c)).setCell ⟨w.heap.size + 1 + 1, 0, none⟩ (.int .i64 d)).heap[w.heap.size + 1]? = some (.cells #[.int .i64 c'] 3 (0, 0)) ∧
    ((W.setCell ⟨w.heap.size + 1, 0, none⟩ (.int .i64 c)).setCell ⟨w.heap.size + 1 + 1, 0, none⟩ (.int .i64 d)).heap[w.heap.size + 1 + 1]? = some (.cells #[.int .i64 d'] 3 (0, 0)) ∧
    Below w.heap.size w ((W.setCell ⟨w.heap.size + 1, 0, none⟩ (.int .i64 c)).setCell ⟨w.heap.size + 1 + 1, 0, none⟩ (.int .i64 d)) := by
  subst hc hd
  have a1 := Go.heap_setCell_same W (w.heap.size + 1) 0 _ 3 (.int .i64 c) h1
  have a2 := (Go.heap_setCell_other W ⟨w.heap.size + 1, 0, none⟩ (w.heap.size + 1 + 1) (.int .i64 c) (by simp)).trans h2
  have b2 := Go.heap_setCell_same _ (w.heap.size + 1 + 1) 0 _ 3 (.int .i64 d) a2
  have b1 := (Go.heap_setCell_other (W.setCell ⟨w.heap.size + 1, 0, none⟩ (.int .i64 c)) ⟨w.heap.size + 1 + 1, 0, none⟩ (w.heap.size + 1) (.int .i64 d) (by simp)).trans a1
  have g1 := gb_set W (w.heap.size + 1) 0 (.int .i64 c)
  have g2 := gb_set (W.setCell ⟨w.heap.size + 1, 0, none⟩ (.int .i64 c)) (w.heap.size + 1 + 1) 0 (.int .i64 d)
  refine ⟨(RKept.grown g1 (by simp; omega)).trans (RKept.grown g2 (by simp; omega)), b1, b2, below_gb (below_gb h3 g1 h3.size (by simp)) g2 (by have := g1.size; have := h3.size; omega) (by simp; omega)⟩

set_option maxRecDepth 100000 in
set_option maxHeartbeats 800000 in
theorem psize_in (t : L) (hd : t.depth < 900000) (hs : t.size < 900000) (w : World) (ok : Nat → Prop) (k : Hd) (hr : Rep w ok t k) :
    CallsIn Fence.wide 3 Try.prog 27 #[k.val] w (fun e w' => e = .returned (.tuple #[.int .i64 t.size, .int .i64 t.depth]) ∧ Below w.heap.size w w') := by
  have HR := Lib.hid hr.bound
  clear hr
  refine callsIn_of_wp_marks Try.func27 rfl trivial ?_ rfl
  simp only [Try.ntmps27, List.size_toArray, List.length_cons, List.length_nil, Nat.reduceAdd, Nat.reduceSub, Array.replicate_succ, Array.replicate_zero, List.push_toArray, List.append_toArray, List.nil_append, List.cons_append]
  gi_wp2_with (refine ⟨trivial, ?_⟩; gi_at_call 38; refine (callsIn_wide.2 (nodes_calls _ _)).mono ?_; rintro e w1 ⟨rfl, rfl⟩)
  obtain ⟨hb, hs4, g0, g1, g2, g3⟩ := four w (.cells #[.int .i64 k.op, .string k.name, .int .i64 k.num, .int .i64 0, .string ⟨#[]⟩, .int .i64 0, .slice none 0 0, .slice none 0 0, .slice k.A k.n k.c] 31) (.cells #[.int .i64 0] 3) (.cells #[.int .i64 0] 3) k.obj
  generalize World.alloc (World.alloc (World.alloc (World.alloc w _) _) _) _ = X at *
  refine range_all (α := Node) (gf := 44) (lb := #[.pointer (some ⟨w.heap.size + 1 + 1 + 1, 0, none⟩)]) rfl (enters_of Try.func44 (by kernel_rfl) rfl) (encs := Node.encs) (n := w.heap.size) (by omega)
    (S := fun xs => xs.map (·.2.1) = deps t 1) (fun _ => rfl)
    (fun pre W => W.heap[w.heap.size + 1]? = some (.cells #[.int .i64 (wrap64 pre.length)] 3 (0, 0)) ∧ W.heap[w.heap.size + 1 + 1]? = some (.cells #[.int .i64 (md (pre.map (·.2.1)) : Nat)] 3 (0, 0)) ∧ Below w.heap.size w W)
    ?deaf ⟨by rw [g1]; simp [wrap64], g2, hb⟩ ?seq
    (fun x a' W => ∃ Bx : Nat, W.heap[Bx]? = some (.cells #[.int .i64 x.2.1, .int .i64 x.2.2] 76 (0, 0)) ∧ a' = { tmps := #[k.val, .pointer (some ⟨w.heap.size, 0, none⟩), .pointer (some ⟨w.heap.size + 1, 0, none⟩), .pointer (some ⟨w.heap.size + 1 + 1, 0, none⟩), undef, .pointer (some ⟨Bx, 0, none⟩), k.val, .func (.func 44) #[] #[.pointer (some ⟨w.heap.size + 1 + 1 + 1, 0, none⟩)], x.1.val, .agg #[.int .i64 x.2.1, .int .i64 x.2.2], undef, undef, undef, undef, undef, undef, undef, undef], defers := [] })
    ?assign ?body ?done
  case deaf =>
    rintro s A B row ⟨h1, h2, h3⟩ hg hr
    exact ⟨(hg.block _ (Array.getElem?_eq_some_iff.1 h1).1 (fun e => by have := hr _ e.symm; omega)).trans h1, (hg.block _ (Array.getElem?_eq_some_iff.1 h2).1 (fun e => by have := hr _ e.symm; omega)).trans h2,
      below_gb h3 hg h3.size (fun r e => by have := hr r e; omega)⟩
  case seq =>
    intro W hW hsW
    exact nodes_iter _ _ _ _ t hd _ (fun z hz => hz.2) W (by omega) _ k ((hW.block _ (by omega)).trans g3) (HR.out.below (hb.trans (hW.mono (by omega))))
  case assign =>
    intro l j x W K hK
    have hsz : W.heap.size < (W.alloc (.cells #[.int .i64 x.2.1, .int .i64 x.2.2] 76)).heap.size := by simp
    gi_wp2
    exact hK _ _ (gb_alloc _ _) (fun Y' h => ⟨W.heap.size, (h _ (Nat.le_refl _)).trans (Go.heap_alloc_new W _), rfl⟩)
  case body =>
    rintro l j pre x a' W hsW ⟨h1, h2, h3⟩ ⟨Bx, hBx, rfl⟩
    have n1 : Bx ≠ w.heap.size + 1 := by rintro rfl; rw [h1] at hBx; simp at hBx
    have n2 : Bx ≠ w.heap.size + 1 + 1 := by rintro rfl; rw [h2] at hBx; simp at hBx
    obtain ⟨cn, hcn⟩ : ∃ cn : Int, wrap64 pre.length = cn := ⟨_, rfl⟩
    obtain ⟨dn, hdn⟩ : ∃ dn : Nat, md (pre.map (·.2.1)) = dn := ⟨_, rfl⟩
    have HC := Lib.hid (And.intro hcn hdn)
    rw [hcn] at h1
    rw [hdn] at h2
    clear hcn hdn
    have HW := Lib.hid (And.intro h1 (And.intro h2 h3))
    have c1 := cell_of_row _ _ 0 _ _ _ h1
    have c2 := cell_of_row _ _ 0 _ _ _ h2
    have c3 := cell_of_row _ _ 0 _ _ _ hBx
    have f1 := free_of_block h1
    have f2 := free_of_block h2
    have l1 := (Array.getElem?_eq_some_iff.1 h1).1
    have l2 := (Array.getElem?_eq_some_iff.1 h2).1
    simp at c1 c2 c3
    clear h1 h2 h3 hBx
    gi_wp2
    all_goals
      obtain ⟨h1, h2, h3⟩ := HW.out
      obtain ⟨hc, hd'⟩ := HC.out
      refine two_cells (by omega) h1 h2 h3 ?_ ?_
      · simp only [List.length_append, List.length_cons, List.length_nil]
        rw [← hc]; exact wrap_succ _
      · simp only [List.map_append, List.map_cons, List.map_nil, md_append]
        rw [hd']; simp [md]; omega
  case done =>
    rintro xs W hS ⟨h1, h2, h3⟩ hK
    have e1 : xs.length = t.size := by rw [← deps_length t 1, ← hS, List.length_map]
    have e2 : md (xs.map (·.2.1)) = t.depth := by rw [hS]; have := deps_md t 1; omega
    have e3 : wrap64 (xs.length : Nat) = (t.size : Int) := by rw [e1]; unfold wrap64; omega
    rw [e3] at h1
    rw [e2] at h2
    clear e1 e2 e3 hS g0 g1 g2 g3 HR
    obtain ⟨cn, hcn⟩ : ∃ cn : Int, (t.size : Int) = cn := ⟨_, rfl⟩
    obtain ⟨dn, hdn⟩ : ∃ dn : Int, (t.depth : Int) = dn := ⟨_, rfl⟩
    rw [hcn] at h1
    rw [hdn] at h2
    have HC := Lib.hid (And.intro hcn hdn)
    clear hcn hdn
    have HW := Lib.hid (And.intro h1 (And.intro h2 (And.intro h3 (And.intro hK hs4))))
    have c1 := cell_of_row _ _ 0 _ _ _ h1
    have c2 := cell_of_row _ _ 0 _ _ _ h2
    have f1 := free_of_block h1
    have f2 := free_of_block h2
    have l1 := (Array.getElem?_eq_some_iff.1 h1).1
    have l2 := (Array.getElem?_eq_some_iff.1 h2).1
    simp at c1 c2
    clear h1 h2 h3 hK hb hs4
    gi_wp2
    gi_region
    gi_wp2
    obtain ⟨h1, h2, h3, hK, hs4⟩ := HW.out
    obtain ⟨hc, hd'⟩ := HC.out
    obtain ⟨hk, b1, b2, b3⟩ := two_cells (B := X.heap.size) (by omega) h1 h2 h3 (rfl : cn = cn) (rfl : dn = dn)
    have hK2 := (hk.2 X.heap.size (.inr (Nat.le_refl _)) (Array.getElem?_eq_some_iff.1 hK).1).trans hK
    clear f1 f2 l1 l2 c1 c2 h1 h2 h3 hK HW HC hk
    generalize World.setCell (World.setCell W _ _) _ _ = V at *
    have hK3 : V.drew.heap[X.heap.size]? = some (.deferred (some [])) := hK2
    have p1 : (V.drew.putObj X.heap.size (.deferred none)).heap[w.heap.size + 1]? = some (.cells #[.int .i64 cn] 3 (0, 0)) := (World.putObj_heap_other (by omega)).trans b1
    have p2 : (V.drew.putObj X.heap.size (.deferred none)).heap[w.heap.size + 1 + 1]? = some (.cells #[.int .i64 dn] 3 (0, 0)) := (World.putObj_heap_other (by omega)).trans b2
    refine ⟨by simp, .inl ⟨_, _, rfl, run_takeDeferred hK3, ?_⟩⟩
    have c1 := cell_of_row _ _ 0 _ _ _ p1
    have c2 := cell_of_row _ _ 0 _ _ _ p2
    simp at c1 c2
    refine ⟨.tuple #[.int .i64 cn, .int .i64 dn], by simp [results, Try.results27, go_sem, c1, c2], by rw [← hc, ← hd'], ?_⟩
    exact below_gb (b3.drew) (grownBy_putObj' _ _ _) (by have := b3.size; exact this) (by simp; omega)

theorem psize_calls (t : L) (hd : t.depth < 900000) (hs : t.size < 900000) (w : World) (ok : Nat → Prop) (k : Hd) (hr : Rep w ok t k) :
    Calls Try.prog 27 #[k.val] w (fun e w' => e = .returned (.tuple #[.int .i64 t.size, .int .i64 t.depth]) ∧ Below w.heap.size w w') := callsIn_wide.1 (psize_in t hd hs w ok k hr)

set_option maxRecDepth 100000 in
set_option maxHeartbeats 800000 in
theorem large_calls (t : L) (hd : t.depth ≤ 500) (hs : t.size ≤ 20000) (w : World) (ok : Nat → Prop) (k : Hd) (hr : Rep w ok t k) :
    Calls Try.prog 22 #[k.val] w (fun e w' => e = .returned (.int .i64 0) ∧ Below w.heap.size w w') := by
  have HS := Lib.hid (psize_calls t (by omega) (by omega) _ ok k (hr.below (alloc_below w k.obj)))
  clear hr
  go_enter Try.func22, Try.ntmps22
  go_wp2_with fail
  refine HS.out.mono ?_
  rintro e w1 ⟨rfl, hb⟩
  have hB := (alloc_below w _).trans (hb.mono (by simp))
  clear hb
  go_wp2
  go_ret
  exact ⟨rfl, hB⟩
end Go.Proofs.Ytogdjjleclbgcaa
