/- The nodes of a term, one after the other. -/
import Derived.Test.YtogdjjleclbgcaaRange
namespace Go.Proofs.Ytogdjjleclbgcaa
open Go.RowKit Go.Shelf
attribute [local go_sem] Oper.semAt_some

/-- What lies below s, and below n or from B on, lies as it lay. -/
def KeptTo (s n B : Nat) (X Y : World) : Prop := s ≤ X.heap.size ∧ X.heap.size ≤ Y.heap.size ∧ ∀ b, (b < n ∨ B ≤ b) → b < s → Y.heap[b]? = X.heap[b]?
theorem KeptTo.trans {s n B : Nat} {X Y Z : World} (h : KeptTo s n B X Y) (k : KeptTo s n B Y Z) : KeptTo s n B X Z :=
  ⟨h.1, Nat.le_trans h.2.1 k.2.1, fun b hb hl => (k.2.2 b hb hl).trans (h.2.2 b hb hl)⟩
theorem KeptTo.of {s n B : Nat} {X Y : World} (h : RKept n B X Y) (hs : s ≤ X.heap.size) : KeptTo s n B X Y := ⟨hs, h.1, fun b hb hl => h.2 b hb (by omega)⟩
theorem KeptTo.grown {s n B : Nat} {X Y : World} {row : Option Nat} (h : X.grownBy Y row) (hs : s ≤ X.heap.size) (hr : ∀ r, row = some r → s ≤ r) : KeptTo s n B X Y :=
  ⟨hs, h.size, fun b hb hl => h.block b (by omega) (fun e => by have := hr b e.symm; omega)⟩
theorem KeptTo.all {n B : Nat} {X Y : World} (h : KeptTo X.heap.size n B X Y) : RKept n B X Y := ⟨h.2.1, h.2.2⟩

theorem hp2a (w : World) (A B : Obj) : ((w.alloc A).alloc B).heap[w.heap.size]? = some A := by
  rw [Below.heap_alloc _ _ _ (by simp)]; exact Go.heap_alloc_new w A

/-- The depths of the nodes, each one ahead of its kids. -/
def deps : L → Nat → List Nat
  | .abs b, d => d :: deps b (d + 1)
  | .app f a, d => d :: (deps f (d + 1) ++ deps a (d + 1))
  | _, d => [d]

abbrev Node := Hd × Nat × Nat
abbrev Node.encs (x : Node) : Array Value := #[x.1.val, .agg #[.int .i64 x.2.1, .int .i64 x.2.2]]

/-- What a walk through a term gives. -/
def Walked (n B : Nat) (J : List Node → World → Prop) (pre : List Node) (ds : List Nat) (W : World) (e : Ending) (W' : World) : Prop :=
  e = .returned (.bool true) ∧ (∃ q : List Node, q.map (·.2.1) = ds ∧ J (pre ++ q) W') ∧ RKept n B W W'

set_option maxRecDepth 100000 in
set_option maxHeartbeats 800000 in
theorem walk_leaf (m l n B : Nat) (J : List Node → World → Prop) (hJ : Deaf B J)
    (hY : ∀ k pre x X, J pre X → YieldAt Fence.wide k Try.prog l (Node.encs x) X fun e Y => e = .returned (.bool true) ∧ J (pre ++ [x]) Y ∧ RKept n B X Y)
    (op : Int) (nm : ByteArray) (num : Int) (h5 : (op == 5) = false) (d u : Nat) (hd : d < 1000000) (pre : List Node) (W : World) (yb xb : Nat)
    (hB : B ≤ yb) (hB' : B ≤ xb) (hy0 : W.cell? ⟨yb, 0, none⟩ = some (.func (.yield l) #[] #[])) (h0 : J pre W) :
    CallsIn Fence.wide m Try.prog 45 #[Hd.val ⟨op, nm, num, none, 0, 0⟩, .agg #[.int .i64 d, .int .i64 u], .pointer (some ⟨yb, 0, none⟩), .pointer (some ⟨xb, 0, none⟩)] W (Walked n B J pre [d] W) := by
  have hyl := World.block_lt_of_cell? W _ hy0
  have hyl1 : yb < W.heap.size + 1 := by simp at hyl; omega
  have hJ2 : J pre ((W.alloc (Hd.obj ⟨op, nm, num, none, 0, 0⟩)).alloc (.cells #[.int .i64 d, .int .i64 u] 76)) := hJ _ _ _ none h0 (gb_trans (gb_alloc _ _) (gb_alloc _ _)) (by simp)
  obtain ⟨fn, tmps, assign, body, hy, hR⟩ := hY (m - 1) pre (⟨op, nm, num, none, 0, 0⟩, d, u) _ hJ2
  refine callsIn_of_wp Try.func45 rfl trivial ?_ rfl
  simp only [Try.ntmps45, List.size_toArray, List.length_cons, List.length_nil, Nat.reduceAdd, Nat.reduceSub, Array.replicate_succ, Array.replicate_zero, List.push_toArray, List.append_toArray, List.nil_append, List.cons_append]
  gi_wp2
  refine ⟨fun h => (by cases h), ?_⟩
  refine hR.mono ?_
  clear hy hR
  rintro e W3 ⟨rfl, hJ3, hk3⟩
  have q0 := (hk3.2 W.heap.size (.inr (by omega)) (by simp; omega)).trans (hp2a W _ _)
  have q1 := (hk3.2 (W.heap.size + 1) (.inr (by omega)) (by simp)).trans (heap2 W _ _)
  have hs3 : W.heap.size + 2 ≤ W3.heap.size := by have := hk3.1; simp at this; omega
  have HK := Lib.hid (And.intro hJ3 hk3)
  clear hJ3 hk3 hJ2 hY
  have c0 := cell_of_row _ _ 0 _ _ _ q0
  have c8 := cell_of_row _ _ 8 _ _ _ q0
  have d0 := cell_of_row _ _ 0 _ _ _ q1
  have dz := free_of_block q1
  clear q0 q1
  simp only [List.getElem?_toArray, List.getElem?_cons_zero, List.getElem?_cons_succ] at c0 c8 d0
  gi_wp2
  refine wpIn_loop_rounds 1 ?_
  rw [roundsIn_succ]
  gi_wp2
  go_ret
  have g1 := gb_set W3 (W.heap.size + 1) 0 (.int .i64 (↑d + 1))
  refine ⟨rfl, ⟨[_], rfl, hJ _ _ _ _ HK.out.1 g1 (by simp; omega)⟩, KeptTo.all ?_⟩
  have k1 : KeptTo W.heap.size n B W ((W.alloc (Hd.obj ⟨op, nm, num, none, 0, 0⟩)).alloc (.cells #[.int .i64 d, .int .i64 u] 76)) := .grown (gb_trans (gb_alloc _ _) (gb_alloc _ _)) (Nat.le_refl _) (by simp)
  exact (k1.trans (.of HK.out.2 (by simp; omega))).trans (.grown g1 (by omega) (by simp))

set_option maxRecDepth 100000 in
set_option maxHeartbeats 800000 in
theorem walk_abs (m l n B : Nat) (J : List Node → World → Prop) (hJ : Deaf B J)
    (hY : ∀ k pre x X, J pre X → YieldAt Fence.wide k Try.prog l (Node.encs x) X fun e Y => e = .returned (.bool true) ∧ J (pre ++ [x]) Y ∧ RKept n B X Y)
    (b : L) (k : Hd) (ok : Nat → Prop) (hok : ∀ z, ok z → z < n) (d u : Nat) (hd : d < 1000000) (hu : u < 1000000) (pre : List Node) (W : World) (hr : Rep W ok (.abs b) k) (yb xb : Nat)
    (hB : B ≤ yb) (hB' : B ≤ xb) (hy0 : W.cell? ⟨yb, 0, none⟩ = some (.func (.yield l) #[] #[])) (hx0 : W.cell? ⟨xb, 0, none⟩ = some (.func (.func 45) #[] #[.pointer (some ⟨yb, 0, none⟩), .pointer (some ⟨xb, 0, none⟩)])) (h0 : J pre W)
    (ih : ∀ (pre : List Node) (V : World) (k' : Hd), Rep V ok b k' → V.cell? ⟨yb, 0, none⟩ = some (.func (.yield l) #[] #[]) → V.cell? ⟨xb, 0, none⟩ = some (.func (.func 45) #[] #[.pointer (some ⟨yb, 0, none⟩), .pointer (some ⟨xb, 0, none⟩)]) → J pre V →
      CallsIn Fence.wide (m - 1) Try.prog 45 #[k'.val, .agg #[.int .i64 ((d : Int) + 1), .int .i64 ((u : Int) + 1)], .pointer (some ⟨yb, 0, none⟩), .pointer (some ⟨xb, 0, none⟩)] V (Walked n B J pre (deps b (d + 1)) V)) :
    CallsIn Fence.wide m Try.prog 45 #[k.val, .agg #[.int .i64 d, .int .i64 u], .pointer (some ⟨yb, 0, none⟩), .pointer (some ⟨xb, 0, none⟩)] W (Walked n B J pre (deps (.abs b) d) W) := by
  obtain ⟨a, c, k1, rfl, hoa, hc, h00, hr⟩ := hr
  have han := hok a hoa
  have haW := h00.lt
  have hyl := World.block_lt_of_cell? W _ hy0
  have hxl := World.block_lt_of_cell? W _ hx0
  have hyl1 : yb < W.heap.size + 1 := by simp at hyl; omega
  have hJ2 : J pre ((W.alloc (Hd.obj ⟨5, ⟨#[]⟩, 0, some ⟨a, 0, none⟩, 1, c⟩)).alloc (.cells #[.int .i64 d, .int .i64 u] 76)) := hJ _ _ _ none h0 (gb_trans (gb_alloc _ _) (gb_alloc _ _)) (by simp)
  have IH := Lib.hid (And.intro ih (And.intro hr (And.intro h00 (And.intro hx0 (And.intro hy0 hok)))))
  clear ih hr h00 hx0 hok
  obtain ⟨fn, tmps, assign, body, hy, hR⟩ := hY (m - 1) pre (⟨5, ⟨#[]⟩, 0, some ⟨a, 0, none⟩, 1, c⟩, d, u) _ hJ2
  refine callsIn_of_wp Try.func45 rfl trivial ?_ rfl
  simp only [Try.ntmps45, List.size_toArray, List.length_cons, List.length_nil, Nat.reduceAdd, Nat.reduceSub, Array.replicate_succ, Array.replicate_zero, List.push_toArray, List.append_toArray, List.nil_append, List.cons_append]
  gi_wp2
  refine ⟨fun h => (by cases h), ?_⟩
  refine hR.mono ?_
  clear hy hR hy0 hyl1
  rintro e W3 ⟨rfl, hJ3, hk3⟩
  have k1' : KeptTo W.heap.size n B W ((W.alloc (Hd.obj ⟨5, ⟨#[]⟩, 0, some ⟨a, 0, none⟩, 1, c⟩)).alloc (.cells #[.int .i64 d, .int .i64 u] 76)) := .grown (gb_trans (gb_alloc _ _) (gb_alloc _ _)) (Nat.le_refl _) (by simp)
  have kW := k1'.trans (.of hk3 (by simp; omega))
  have q0 := (hk3.2 W.heap.size (.inr (by omega)) (by simp; omega)).trans (hp2a W _ _)
  have q1 := (hk3.2 (W.heap.size + 1) (.inr (by omega)) (by simp)).trans (heap2 W _ _)
  have hs3 : W.heap.size + 2 ≤ W3.heap.size := by have := hk3.1; simp at this; omega
  have HK := Lib.hid (And.intro hJ3 (And.intro kW (And.intro q0 q1)))
  clear hJ3 hk3 hJ2 hY kW k1'
  have c0 := cell_of_row _ _ 0 _ _ _ q0
  have c8 := cell_of_row _ _ 8 _ _ _ q0
  have d0 := cell_of_row _ _ 0 _ _ _ q1
  have d1 := cell_of_row _ _ 1 _ _ _ q1
  have dz := free_of_block q1
  clear q0 q1
  simp only [List.getElem?_toArray, List.getElem?_cons_zero, List.getElem?_cons_succ] at c0 c8 d0 d1
  gi_wp2
  clear c0 c8 d0 d1 dz
  obtain ⟨hJ3, kW, q0, q1⟩ := HK.out
  have p0 := Go.heap_setCell_same W3 (W.heap.size + 1) 0 _ 76 (.int .i64 (↑d + 1)) q1
  have p1 := Go.heap_setCell_same _ (W.heap.size + 1) 1 _ 76 (.int .i64 (↑u + 1)) p0
  have g1 := gb_set W3 (W.heap.size + 1) 0 (.int .i64 (↑d + 1))
  have g2 := gb_set (W3.setCell ⟨W.heap.size + 1, 0, none⟩ (.int .i64 (↑d + 1))) (W.heap.size + 1) 1 (.int .i64 (↑u + 1))
  have g3 := tr_row g1 g2
  have q3 := (g3.block W.heap.size (by omega) (by simp)).trans q0
  have kV := kW.trans (.grown g3 (by omega) (by simp))
  have hJV := hJ _ _ _ _ hJ3 g3 (by simp; omega)
  have hsV := g3.size
  generalize hV : World.setCell (World.setCell W3 _ _) _ _ = V at *
  clear hV g1 g2 g3 p0 q0 q1 kW hJ3 HK
  have hsV2 : W.heap.size + 2 ≤ V.heap.size := by omega
  have kk := fun z (h : z < n ∨ B ≤ z) (h' : z < W.heap.size) => kV.2.2 z h h'
  have hA := IH.out.2.2.1.move (kk a (.inl han) haW)
  have hx1 : V.cell? ⟨xb, 0, none⟩ = some _ := (World.cell?_of_block (a := ⟨xb, 0, none⟩) (kk xb (.inr hB') hxl)).trans IH.out.2.2.2.1
  have HV := Lib.hid (And.intro p1 (And.intro q3 (And.intro kV hJV)))
  obtain ⟨e0, e1, e2, e3, e4, e5, e6, e7, e8⟩ := hA
  have f0 := cell_of_row _ _ 0 _ _ _ p1
  have f1 := cell_of_row _ _ 1 _ _ _ p1
  simp at f0 f1
  clear kk p1 q3 kV hJV
  have haV : a < V.heap.size := by omega
  have hxV : xb < V.heap.size := by have h : xb < W.heap.size := hxl; omega
  have l1 : W.heap.size + 1 < V.heap.size := by omega
  refine wpIn_loop_rounds 2 ?_
  rw [roundsIn_succ]
  gi_wp2_with fail
  clear e0 e1 e2 e3 e4 e5 e6 e7 e8 f0 f1 hx1
  have gA := gb_alloc V (Hd.obj k1)
  have kA := HV.out.2.2.1.trans (KeptTo.grown (n := n) (B := B) gA (by omega) (by simp))
  refine ⟨trivial, fun h => (by cases h), ?_⟩
  refine (IH.out.1 (pre ++ [(⟨5, ⟨#[]⟩, 0, some ⟨a, 0, none⟩, 1, c⟩, d, u)]) _ k1 (IH.out.2.1.move (fun z hz hl => kA.2.2 z (.inl (IH.out.2.2.2.2.2 z hz)) hl))
    ((World.cell?_of_block (a := ⟨yb, 0, none⟩) (kA.2.2 yb (.inr hB) hyl)).trans IH.out.2.2.2.2.1) ((World.cell?_of_block (a := ⟨xb, 0, none⟩) (kA.2.2 xb (.inr hB') hxl)).trans IH.out.2.2.2.1)
    (hJ _ _ _ none HV.out.2.2.2 gA (by simp))).mono ?_
  rintro e W4 ⟨rfl, ⟨q, hq, hJ4⟩, hk4⟩
  have HE := Lib.hid (And.intro hq (And.intro hJ4 (kA.trans (.of hk4 (by simp; omega)))))
  clear hq hJ4 hk4 kA gA
  gi_wp2
  rw [roundsIn_succ]
  gi_wp2
  go_ret
  exact ⟨rfl, ⟨(⟨5, ⟨#[]⟩, 0, some ⟨a, 0, none⟩, 1, c⟩, d, u) :: q, by simp [deps, HE.out.1], by have := HE.out.2.1; simpa using this⟩, KeptTo.all HE.out.2.2⟩
set_option maxRecDepth 100000 in
set_option maxHeartbeats 800000 in
theorem walk_app (m l n B : Nat) (J : List Node → World → Prop) (hJ : Deaf B J)
    (hY : ∀ k pre x X, J pre X → YieldAt Fence.wide k Try.prog l (Node.encs x) X fun e Y => e = .returned (.bool true) ∧ J (pre ++ [x]) Y ∧ RKept n B X Y)
    (f x : L) (k : Hd) (ok : Nat → Prop) (hok : ∀ z, ok z → z < n) (d u : Nat) (hd : d < 1000000) (pre : List Node) (W : World) (hr : Rep W ok (.app f x) k) (yb xb : Nat)
    (hB : B ≤ yb) (hB' : B ≤ xb) (hy0 : W.cell? ⟨yb, 0, none⟩ = some (.func (.yield l) #[] #[])) (hx0 : W.cell? ⟨xb, 0, none⟩ = some (.func (.func 45) #[] #[.pointer (some ⟨yb, 0, none⟩), .pointer (some ⟨xb, 0, none⟩)])) (h0 : J pre W)
    (ihf : ∀ (pre : List Node) (V : World) (k' : Hd), Rep V ok f k' → V.cell? ⟨yb, 0, none⟩ = some (.func (.yield l) #[] #[]) → V.cell? ⟨xb, 0, none⟩ = some (.func (.func 45) #[] #[.pointer (some ⟨yb, 0, none⟩), .pointer (some ⟨xb, 0, none⟩)]) → J pre V →
      CallsIn Fence.wide (m - 1) Try.prog 45 #[k'.val, .agg #[.int .i64 ((d : Int) + 1), .int .i64 u], .pointer (some ⟨yb, 0, none⟩), .pointer (some ⟨xb, 0, none⟩)] V (Walked n B J pre (deps f (d + 1)) V))
    (ihx : ∀ (pre : List Node) (V : World) (k' : Hd), Rep V ok x k' → V.cell? ⟨yb, 0, none⟩ = some (.func (.yield l) #[] #[]) → V.cell? ⟨xb, 0, none⟩ = some (.func (.func 45) #[] #[.pointer (some ⟨yb, 0, none⟩), .pointer (some ⟨xb, 0, none⟩)]) → J pre V →
      CallsIn Fence.wide (m - 1) Try.prog 45 #[k'.val, .agg #[.int .i64 ((d : Int) + 1), .int .i64 u], .pointer (some ⟨yb, 0, none⟩), .pointer (some ⟨xb, 0, none⟩)] V (Walked n B J pre (deps x (d + 1)) V)) :
    CallsIn Fence.wide m Try.prog 45 #[k.val, .agg #[.int .i64 d, .int .i64 u], .pointer (some ⟨yb, 0, none⟩), .pointer (some ⟨xb, 0, none⟩)] W (Walked n B J pre (deps (.app f x) d) W) := by
  obtain ⟨a, c, k1, k2, rfl, hoa, hc, h00, h99, hf, hx⟩ := hr
  have han := hok a hoa
  have haW := h00.lt
  have hyl := World.block_lt_of_cell? W _ hy0
  have hxl := World.block_lt_of_cell? W _ hx0
  have hyl1 : yb < W.heap.size + 1 := by simp at hyl; omega
  have hJ2 : J pre ((W.alloc (Hd.obj ⟨6, ⟨#[]⟩, 0, some ⟨a, 0, none⟩, 2, c⟩)).alloc (.cells #[.int .i64 d, .int .i64 u] 76)) := hJ _ _ _ none h0 (gb_trans (gb_alloc _ _) (gb_alloc _ _)) (by simp)
  have IH := Lib.hid (And.intro ihf (And.intro hf (And.intro h00 (And.intro hx0 (And.intro hy0 hok)))))
  have IH2 := Lib.hid (And.intro ihx (And.intro hx h99))
  clear ihf ihx hf hx h00 h99 hx0 hok
  obtain ⟨fn, tmps, assign, body, hy, hR⟩ := hY (m - 1) pre (⟨6, ⟨#[]⟩, 0, some ⟨a, 0, none⟩, 2, c⟩, d, u) _ hJ2
  refine callsIn_of_wp Try.func45 rfl trivial ?_ rfl
  simp only [Try.ntmps45, List.size_toArray, List.length_cons, List.length_nil, Nat.reduceAdd, Nat.reduceSub, Array.replicate_succ, Array.replicate_zero, List.push_toArray, List.append_toArray, List.nil_append, List.cons_append]
  gi_wp2
  refine ⟨fun h => (by cases h), ?_⟩
  refine hR.mono ?_
  clear hy hR hy0 hyl1
  rintro e W3 ⟨rfl, hJ3, hk3⟩
  have k1' : KeptTo W.heap.size n B W ((W.alloc (Hd.obj ⟨6, ⟨#[]⟩, 0, some ⟨a, 0, none⟩, 2, c⟩)).alloc (.cells #[.int .i64 d, .int .i64 u] 76)) := .grown (gb_trans (gb_alloc _ _) (gb_alloc _ _)) (Nat.le_refl _) (by simp)
  have kW := k1'.trans (.of hk3 (by simp; omega))
  have q0 := (hk3.2 W.heap.size (.inr (by omega)) (by simp; omega)).trans (hp2a W _ _)
  have q1 := (hk3.2 (W.heap.size + 1) (.inr (by omega)) (by simp)).trans (heap2 W _ _)
  have hs3 : W.heap.size + 2 ≤ W3.heap.size := by have := hk3.1; simp at this; omega
  have HK := Lib.hid (And.intro hJ3 (And.intro kW (And.intro q0 q1)))
  clear hJ3 hk3 hJ2 hY kW k1'
  have c0 := cell_of_row _ _ 0 _ _ _ q0
  have c8 := cell_of_row _ _ 8 _ _ _ q0
  have d0 := cell_of_row _ _ 0 _ _ _ q1
  have dz := free_of_block q1
  clear q0 q1
  simp only [List.getElem?_toArray, List.getElem?_cons_zero, List.getElem?_cons_succ] at c0 c8 d0
  gi_wp2
  clear c0 c8 d0 dz
  obtain ⟨hJ3, kW, q0, q1⟩ := HK.out
  have p0 := Go.heap_setCell_same W3 (W.heap.size + 1) 0 _ 76 (.int .i64 (↑d + 1)) q1
  have g1 := gb_set W3 (W.heap.size + 1) 0 (.int .i64 (↑d + 1))
  have q3 := (g1.block W.heap.size (by omega) (by simp)).trans q0
  have kV := kW.trans (.grown g1 (by omega) (by simp))
  have hJV := hJ _ _ _ _ hJ3 g1 (by simp; omega)
  have hsV := g1.size
  generalize hV : World.setCell W3 _ _ = V at *
  clear hV g1 q0 q1 kW hJ3 HK
  have hsV2 : W.heap.size + 2 ≤ V.heap.size := by omega
  have kk := fun z (h : z < n ∨ B ≤ z) (h' : z < W.heap.size) => kV.2.2 z h h'
  have hA := IH.out.2.2.1.move (kk a (.inl han) haW)
  have hx1 : V.cell? ⟨xb, 0, none⟩ = some _ := (World.cell?_of_block (a := ⟨xb, 0, none⟩) (kk xb (.inr hB') hxl)).trans IH.out.2.2.2.1
  have HV := Lib.hid (And.intro p0 (And.intro q3 (And.intro kV hJV)))
  obtain ⟨e0, e1, e2, e3, e4, e5, e6, e7, e8⟩ := hA
  have f0 := cell_of_row _ _ 0 _ _ _ p0
  have f1 := cell_of_row _ _ 1 _ _ _ p0
  simp at f0 f1
  clear kk p0 q3 kV hJV
  have haV : a < V.heap.size := by omega
  have hxV : xb < V.heap.size := by have h : xb < W.heap.size := hxl; omega
  have l1 : W.heap.size + 1 < V.heap.size := by omega
  refine wpIn_loop_rounds 3 ?_
  rw [roundsIn_succ]
  gi_wp2_with fail
  clear e0 e1 e2 e3 e4 e5 e6 e7 e8 f0 f1 hx1
  have gA := gb_alloc V (Hd.obj k1)
  have kA := HV.out.2.2.1.trans (KeptTo.grown (n := n) (B := B) gA (by omega) (by simp))
  refine ⟨trivial, fun h => (by cases h), ?_⟩
  refine (IH.out.1 (pre ++ [(⟨6, ⟨#[]⟩, 0, some ⟨a, 0, none⟩, 2, c⟩, d, u)]) _ k1 (IH.out.2.1.move (fun z hz hl => kA.2.2 z (.inl (IH.out.2.2.2.2.2 z hz)) hl))
    ((World.cell?_of_block (a := ⟨yb, 0, none⟩) (kA.2.2 yb (.inr hB) hyl)).trans IH.out.2.2.2.2.1) ((World.cell?_of_block (a := ⟨xb, 0, none⟩) (kA.2.2 xb (.inr hB') hxl)).trans IH.out.2.2.2.1)
    (hJ _ _ _ none HV.out.2.2.2 gA (by simp))).mono ?_
  rintro e W4 ⟨rfl, ⟨q, hq, hJ4⟩, hk4⟩
  have hs4 := hk4.1
  simp only [World.size_alloc] at hs4
  have kB := kA.trans (.of hk4 (by simp; omega))
  have pB := (hk4.2 (W.heap.size + 1) (.inr (by omega)) (by simp; omega)).trans ((gA.block (W.heap.size + 1) (by omega) (by simp)).trans HV.out.1)
  have hA9 := IH2.out.2.2.move (kB.2.2 a (.inl han) haW)
  have hx1 : W4.cell? ⟨xb, 0, none⟩ = some _ := (World.cell?_of_block (a := ⟨xb, 0, none⟩) (kB.2.2 xb (.inr hB') hxl)).trans IH.out.2.2.2.1
  have HW := Lib.hid (And.intro hq (And.intro hJ4 kB))
  clear hq hJ4 hk4 kA gA kB haV hxV l1
  obtain ⟨e0, e1, e2, e3, e4, e5, e6, e7, e8⟩ := hA9
  have f0 := cell_of_row _ _ 0 _ _ _ pB
  have f1 := cell_of_row _ _ 1 _ _ _ pB
  simp at f0 f1
  clear pB
  have haV : a < W4.heap.size := by omega
  have hxV : xb < W4.heap.size := by have h : xb < W.heap.size := hxl; omega
  have l1 : W.heap.size + 1 < W4.heap.size := by omega
  gi_wp2
  rw [roundsIn_succ]
  gi_wp2_with fail
  clear e0 e1 e2 e3 e4 e5 e6 e7 e8 f0 f1 hx1
  have gA := gb_alloc W4 (Hd.obj k2)
  have kA := HW.out.2.2.trans (KeptTo.grown (n := n) (B := B) gA (by omega) (by simp))
  refine ⟨trivial, fun h => (by cases h), ?_⟩
  refine (IH2.out.1 (pre ++ [(⟨6, ⟨#[]⟩, 0, some ⟨a, 0, none⟩, 2, c⟩, d, u)] ++ q) _ k2 (IH2.out.2.1.move (fun z hz hl => kA.2.2 z (.inl (IH.out.2.2.2.2.2 z hz)) hl))
    ((World.cell?_of_block (a := ⟨yb, 0, none⟩) (kA.2.2 yb (.inr hB) hyl)).trans IH.out.2.2.2.2.1) ((World.cell?_of_block (a := ⟨xb, 0, none⟩) (kA.2.2 xb (.inr hB') hxl)).trans IH.out.2.2.2.1)
    (hJ _ _ _ none HW.out.2.1 gA (by simp))).mono ?_
  rintro e W5 ⟨rfl, ⟨q2, hq2, hJ5⟩, hk5⟩
  have HE := Lib.hid (And.intro hq2 (And.intro hJ5 (kA.trans (.of hk5 (by simp; omega)))))
  clear hq2 hJ5 hk5 kA gA
  gi_wp2
  rw [roundsIn_succ]
  gi_wp2
  go_ret
  exact ⟨rfl, ⟨(⟨6, ⟨#[]⟩, 0, some ⟨a, 0, none⟩, 2, c⟩, d, u) :: (q ++ q2), by simp [deps, HE.out.1, HW.out.1], by have := HE.out.2.1; simpa using this⟩, KeptTo.all HE.out.2.2⟩


/-- The walk through any term. -/
theorem walks_in (l n B : Nat) (J : List Node → World → Prop) (hJ : Deaf B J)
    (hY : ∀ k pre x X, J pre X → YieldAt Fence.wide k Try.prog l (Node.encs x) X fun e Y => e = .returned (.bool true) ∧ J (pre ++ [x]) Y ∧ RKept n B X Y)
    (ok : Nat → Prop) (hok : ∀ z, ok z → z < n) (yb xb : Nat) (hB : B ≤ yb) (hB' : B ≤ xb) (t : L) :
    ∀ (m d u : Nat) (pre : List Node) (W : World) (k : Hd), d + t.depth < 1000000 → u + t.depth < 1000000 → Rep W ok t k → W.cell? ⟨yb, 0, none⟩ = some (.func (.yield l) #[] #[]) → W.cell? ⟨xb, 0, none⟩ = some (.func (.func 45) #[] #[.pointer (some ⟨yb, 0, none⟩), .pointer (some ⟨xb, 0, none⟩)]) → J pre W →
      CallsIn Fence.wide m Try.prog 45 #[k.val, .agg #[.int .i64 d, .int .i64 u], .pointer (some ⟨yb, 0, none⟩), .pointer (some ⟨xb, 0, none⟩)] W (Walked n B J pre (deps t d) W) := by
  induction t with
  | free => rintro m d u pre W k hd hu rfl h1 h2 h0; exact walk_leaf m l n B J hJ hY _ _ _ rfl d u (by omega) pre W yb xb hB hB' h1 h0
  | var => rintro m d u pre W k hd hu rfl h1 h2 h0; exact walk_leaf m l n B J hJ hY _ _ _ rfl d u (by omega) pre W yb xb hB hB' h1 h0
  | bnd j => rintro m d u pre W k hd hu rfl h1 h2 h0; exact walk_leaf m l n B J hJ hY _ _ _ rfl d u (by omega) pre W yb xb hB hB' h1 h0
  | abs b ih =>
    intro m d u pre W k hd hu hr h1 h2 h0
    simp only [L.depth] at hd hu
    refine walk_abs m l n B J hJ hY b k ok hok d u (by omega) (by omega) pre W hr yb xb hB hB' h1 h2 h0 (fun pre V k' hr' hy hx hj => ?_)
    have := ih (m - 1) (d + 1) (u + 1) pre V k' (by omega) (by omega) hr' hy hx hj
    simpa using this
  | app f x ihf ihx =>
    intro m d u pre W k hd hu hr h1 h2 h0
    simp only [L.depth] at hd hu
    refine walk_app m l n B J hJ hY f x k ok hok d u (by omega) pre W hr yb xb hB hB' h1 h2 h0 (fun pre V k' hr' hy hx hj => ?_) (fun pre V k' hr' hy hx hj => ?_)
    · have := ihf (m - 1) (d + 1) u pre V k' (by omega) (by omega) hr' hy hx hj
      simpa using this
    · have := ihx (m - 1) (d + 1) u pre V k' (by omega) (by omega) hr' hy hx hj
      simpa using this
end Go.Proofs.Ytogdjjleclbgcaa
