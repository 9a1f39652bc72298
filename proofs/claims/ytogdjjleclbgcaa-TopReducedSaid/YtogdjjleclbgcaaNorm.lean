/- term.Norm where no term on the way is too large. -/
import Derived.Test.YtogdjjleclbgcaaLarge
import Derived.Test.YtogdjjleclbgcaaPstepAll
import Derived.Test.YtogdjjleclbgcaaSmall
import Derived.Test.YtogdjjleclbgcaaCount
import Derived.Defers
import Derived.Recover
namespace Go.Proofs.Ytogdjjleclbgcaa
open Go.RowKit

set_option maxRecDepth 100000 in
set_option maxHeartbeats 800000 in
theorem catch_idle (p q : Addr) (w : World) : CallsD Try.prog 20 #[.pointer (some p), .pointer (some q)] .returning w fun e u' w' => e = .returned (.tuple #[]) ∧ u' = .returning ∧ Below w.heap.size w w' := by
  have hta : ∀ w : World, (Instr.typeAssert Value.nilIface 20 56 true).run Try.prog w = .ok (.tuple #[.agg #[.int .i64 0], .bool false]) w := fun w => by kernel_rfl
  refine callsD_of_wpS Try.func20 rfl fun c₀ cs hu => ?_
  apply wpS_seq
  apply wpS_region
  simp [wpOpsS, go_sem, recoverD, hu, Try.ntmps20, Exit.thenS, hta]
  simp only [List.size_toArray, List.length_cons, List.length_nil, Nat.reduceAdd, Nat.reduceSub, Array.replicate_succ, Array.replicate_zero, List.push_toArray, List.append_toArray, List.nil_append, List.cons_append, List.setIfInBounds_toArray, List.set_cons_succ, List.set_cons_zero]
  refine wpS_of_wp ?_
  go_wp2
  have hb := alloc_below w (.cells #[.int .i64 0] 56)
  cases c₀
  simp_all [bodyPostS, results, Try.results20]

set_option maxRecDepth 100000 in
set_option maxHeartbeats 800000 in
theorem norm_end {R : Ending → World → Prop} {a : Act} {W : World} {B1 B2 : Nat} (k : Hd) (e : Int) (h4 : a.tmps.getD 4 undef = .pointer (some ⟨B1, 0, none⟩)) (h5 : a.tmps.getD 5 undef = .pointer (some ⟨B2, 0, none⟩))
    (hd : a.defers = [{ target := .fn (.func 20) #[.pointer (some ⟨B1, 0, none⟩), .pointer (some ⟨B2, 0, none⟩)], args := #[] }]) (g1 : W.heap[B1]? = some k.obj) (g2 : W.heap[B2]? = some (.cells #[.int .i64 e] 43 (0, 0)))
    (hR : ∀ W', Below W.heap.size W W' → R (.returned (.tuple #[k.val, .int .i64 e])) W') : bodyPostD Try.prog Try.f13 R .ret a W := by
  obtain ⟨tmps, defers⟩ := a
  simp only at hd h4 h5
  subst hd
  refine leaves_cons (f := 20) (args := #[.pointer (some ⟨B1, 0, none⟩), .pointer (some ⟨B2, 0, none⟩)]) (by simp) (by simp [go_sem]) ?_
  refine (catch_idle ⟨B1, 0, none⟩ ⟨B2, 0, none⟩ _).mono ?_
  rintro e' u' w'' ⟨rfl, rfl, hb⟩
  have p1 := (hb.block B1 (Array.getElem?_eq_some_iff.1 g1).1).trans g1
  have p2 := (hb.block B2 (Array.getElem?_eq_some_iff.1 g2).1).trans g2
  have c2 := cell_of_row _ _ 0 _ _ _ p2
  obtain ⟨e0, e1, e2, e3, e4, e5, e6, e7, e8⟩ := cells_of_block p1
  simp at c2 h4 h5
  refine ⟨.tuple #[k.val, .int .i64 e], ?_, hR _ hb⟩
  simp [results, Try.results13, h4, h5, asAddr, e0, e1, e2, e3, e4, e5, e6, e7, e8, c2, go_sem]

/-- The two results are laid, and the function ends. -/
theorem norm_last {R : Ending → World → Prop} {a : Act} {W : World} {s B1 B2 : Nat} {c0 c1 c2 c3 c4 c5 c6 c7 c8 v : Value} (k : Hd) (e : Int) (h4 : a.tmps.getD 4 undef = .pointer (some ⟨B1, 0, none⟩)) (h5 : a.tmps.getD 5 undef = .pointer (some ⟨B2, 0, none⟩))
    (hd : a.defers = [{ target := .fn (.func 20) #[.pointer (some ⟨B1, 0, none⟩), .pointer (some ⟨B2, 0, none⟩)], args := #[] }]) (g1 : W.heap[B1]? = some (.cells #[c0, c1, c2, c3, c4, c5, c6, c7, c8] 31 (0, 0))) (g2 : W.heap[B2]? = some (.cells #[v] 43 (0, 0)))
    (hne : B1 ≠ B2) (hs1 : s ≤ B1) (hs2 : s ≤ B2) (hR : ∀ W', Below s W W' → (∀ b, b < W.heap.size → b ≠ B1 → b ≠ B2 → W'.heap[b]? = W.heap[b]?) → R (.returned (.tuple #[k.val, .int .i64 e])) W') :
    bodyPostD Try.prog Try.f13 R .ret a ((((((((((W.setCell ⟨B1, 0, none⟩ (.int .i64 k.op)).setCell ⟨B1, 1, none⟩ (.string k.name)).setCell ⟨B1, 2, none⟩ (.int .i64 k.num)).setCell ⟨B1, 3, none⟩ (.int .i64 0)).setCell ⟨B1, 4, none⟩ (.string ⟨#[]⟩)).setCell ⟨B1, 5, none⟩ (.int .i64 0)).setCell ⟨B1, 6, none⟩ (.slice none 0 0)).setCell ⟨B1, 7, none⟩ (.slice none 0 0)).setCell ⟨B1, 8, none⟩ (.slice k.A k.n k.c)).setCell ⟨B2, 0, none⟩ (.int .i64 e)) := by
  obtain ⟨V, hV, n1, n2, n3⟩ := nineE (.int .i64 k.op) (.string k.name) (.int .i64 k.num) (.int .i64 0) (.string ⟨#[]⟩) (.int .i64 0) (.slice none 0 0) (.slice none 0 0) (.slice k.A k.n k.c) g1
  rw [hV]
  clear hV
  have l1 := (Array.getElem?_eq_some_iff.1 g1).1
  have l2 := (Array.getElem?_eq_some_iff.1 g2).1
  have m2 := (n2.block B2 l2 (by simp; omega)).trans g2
  have p2 := Go.heap_setCell_same V B2 0 _ 43 (.int .i64 e) m2
  have p1 := (Go.heap_setCell_other V ⟨B2, 0, none⟩ B1 (.int .i64 e) (by simpa using hne)).trans n1
  have g3 := gb_set V B2 0 (.int .i64 e)
  have hb : Below s W (V.setCell ⟨B2, 0, none⟩ (.int .i64 e)) := below_gb (below_gb (Below.refl s W) n2 (by omega) (by simp; omega)) g3 (by omega) (by simp; omega)
  refine norm_end k e h4 h5 hd p1 p2 (fun W' hW' => hR W' (hb.trans (hW'.mono (by have := hb.size; omega))) (fun b hb' hne1 hne2 => ?_))
  rw [hW'.block b (by have := hb.size; omega), g3.block b (by omega) (by simp; omega), n2.block b hb' (by simp; omega)]

/-- The two results are laid, and the function ends. -/
theorem norm_last' {R : Ending → World → Prop} {a : Act} {W : World} {s B1 B2 : Nat} {c0 c1 c2 c3 c4 c5 c6 c7 c8 v : Value} (o : Obj) (k : Hd) (e : Int) (h4 : a.tmps.getD 4 undef = .pointer (some ⟨B1, 0, none⟩)) (h5 : a.tmps.getD 5 undef = .pointer (some ⟨B2, 0, none⟩))
    (hd : a.defers = [{ target := .fn (.func 20) #[.pointer (some ⟨B1, 0, none⟩), .pointer (some ⟨B2, 0, none⟩)], args := #[] }]) (g1 : W.heap[B1]? = some (.cells #[c0, c1, c2, c3, c4, c5, c6, c7, c8] 31 (0, 0))) (g2 : W.heap[B2]? = some (.cells #[v] 43 (0, 0)))
    (hne : B1 ≠ B2) (hs1 : s ≤ B1) (hs2 : s ≤ B2) (hR : ∀ W', Below s W W' → (∀ b, b < W.heap.size → b ≠ B1 → b ≠ B2 → W'.heap[b]? = W.heap[b]?) → R (.returned (.tuple #[k.val, .int .i64 e])) W') :
    bodyPostD Try.prog Try.f13 R .ret a (((((((((((W.setCell ⟨B1, 0, none⟩ (.int .i64 k.op)).setCell ⟨B1, 1, none⟩ (.string k.name)).setCell ⟨B1, 2, none⟩ (.int .i64 k.num)).setCell ⟨B1, 3, none⟩ (.int .i64 0)).setCell ⟨B1, 4, none⟩ (.string ⟨#[]⟩)).setCell ⟨B1, 5, none⟩ (.int .i64 0)).setCell ⟨B1, 6, none⟩ (.slice none 0 0)).setCell ⟨B1, 7, none⟩ (.slice none 0 0)).setCell ⟨B1, 8, none⟩ (.slice k.A k.n k.c)).setCell ⟨B2, 0, none⟩ (.int .i64 e)).alloc o) := by
  obtain ⟨V, hV, n1, n2, n3⟩ := nineE (.int .i64 k.op) (.string k.name) (.int .i64 k.num) (.int .i64 0) (.string ⟨#[]⟩) (.int .i64 0) (.slice none 0 0) (.slice none 0 0) (.slice k.A k.n k.c) g1
  rw [hV]
  clear hV
  have l1 := (Array.getElem?_eq_some_iff.1 g1).1
  have l2 := (Array.getElem?_eq_some_iff.1 g2).1
  have m2 := (n2.block B2 l2 (by simp; omega)).trans g2
  have p2 := Go.heap_setCell_same V B2 0 _ 43 (.int .i64 e) m2
  have p1 := (Go.heap_setCell_other V ⟨B2, 0, none⟩ B1 (.int .i64 e) (by simpa using hne)).trans n1
  have g3 := gb_set V B2 0 (.int .i64 e)
  have hb : Below s W (V.setCell ⟨B2, 0, none⟩ (.int .i64 e)) := below_gb (below_gb (Below.refl s W) n2 (by omega) (by simp; omega)) g3 (by omega) (by simp; omega)
  have ga := alloc_below (V.setCell ⟨B2, 0, none⟩ (.int .i64 e)) o
  have hz := hb.size
  refine norm_end k e h4 h5 hd ((ga.block B1 (by omega)).trans p1) ((ga.block B2 (by omega)).trans p2) (fun W' hW' => hR W' ((hb.trans (ga.mono (by omega))).trans (hW'.mono (by simp; omega))) (fun b hb' hne1 hne2 => ?_))
  rw [hW'.block b (by simp; omega), ga.block b (by omega), g3.block b (by omega) (by simp; omega), n2.block b hb' (by simp; omega)]

/-- A term that is not too large. -/
def L.small (t : L) : Prop := L.clo 0 t ∧ t.depth ≤ 500 ∧ t.size ≤ 20000
/-- No term on the way is too large, as far as the fuel goes. -/
def fine : Nat → L → Prop
  | 0, t => t.small
  | n + 1, t => t.small ∧ ∀ u, t.step = some u → fine n u
theorem fine_small {n : Nat} {t : L} (h : fine n t) : t.small := by cases n with | zero => exact h | succ n => exact h.1
/-- The normal form, if the fuel is enough. -/
def norm : Nat → L → Option L
  | n, t => match t.step with
    | none => some t
    | some u => match n with
      | 0 => none
      | n + 1 => norm n u

theorem norm_some {n : Nat} {t u : L} (h : t.step = some u) : norm (n + 1) t = norm n u := by
  conv => lhs; unfold norm
  rw [h]

def Normed (w : World) (ok : Nat → Prop) (r : Option L) (e : Ending) (w' : World) : Prop :=
  match r with
  | some u => ∃ k : Hd, e = .returned (.tuple #[k.val, .int .i64 0]) ∧ Rep w' (fun a => ok a ∨ w.heap.size ≤ a) u k ∧ Below w.heap.size w w'
  | none => e = .returned (.tuple #[Hd.val ⟨0, ⟨#[]⟩, 0, none, 0, 0⟩, .int .i64 8]) ∧ Below w.heap.size w w'

set_option maxRecDepth 100000 in
set_option maxHeartbeats 800000 in
theorem norm_calls (t : L) (fuel : Nat) (hf : fine fuel t) (hfuel : fuel < 1000000) (w : World) (ok : Nat → Prop) (k : Hd) (hr : Rep w ok t k) : Calls Try.prog 13 #[k.val, .int .i64 fuel] w (Normed w ok (norm fuel t)) := by
  have hmf : ∀ (fn : Fn) (first cap : Array Value) (w : World), (Instr.makeFunc fn first cap).run Try.prog w = .ok (.func fn first cap) w := fun _ _ _ _ => rfl
  have HR := Lib.hid (And.intro hr.bound hf)
  clear hr hf
  go_enter_defers Try.func13, Try.ntmps13
  go_wp2_with (first
    | (go_at_call 22; refine (large_calls t (fine_small HR.out.2).2.1 (fine_small HR.out.2).2.2 _ _ k (HR.out.1.below (below3 w _ _ _))).mono ?_; rintro e w1 ⟨rfl, hb1⟩)
    | (go_at_call 21; refine (must_ok _).mono ?_; rintro e w2 ⟨rfl, rfl⟩))
  have z0 := (hb1.block w.heap.size (by simp; omega)).trans (heap3a w _ _ _)
  have z1 := (hb1.block (w.heap.size + 1) (by simp)).trans (heap3 w _ _ _)
  have z2 := (hb1.block (w.heap.size + 1 + 1) (by simp)).trans (heap3c w _ _ _)
  have hB := (below3 w _ _ _).trans (hb1.mono (by simp; omega))
  have hs2 : w.heap.size + 3 ≤ w2.heap.size := by have := hb1.size; simp at this; omega
  have HZ := Lib.hid (And.intro z0 (And.intro z1 (And.intro z2 hB)))
  clear z0 z1 z2 hB hb1
  go_loopw [6] (fun v wr => ∃ (i : Nat) (u : L) (q : Hd), v = .int .i64 i ∧ i ≤ fuel ∧ norm (fuel - i) u = norm fuel t ∧ fine (fuel - i) u ∧ wr.heap[w.heap.size]? = some q.obj ∧ wr.heap[w.heap.size + 1]? = some (Hd.obj ⟨0, ⟨#[]⟩, 0, none, 0, 0⟩) ∧
      wr.heap[w.heap.size + 1 + 1]? = some (.cells #[.int .i64 0] 43 (0, 0)) ∧ Below w.heap.size w wr ∧ w.heap.size + 3 ≤ wr.heap.size ∧ Rep wr (fun z => (ok z ∧ z < w.heap.size) ∨ w.heap.size + 3 ≤ z) u q) (fun v _ => fuel - (intOf v).toNat)
  case atStart =>
    obtain ⟨z0, z1, z2, hB⟩ := HZ.out
    exact ⟨0, t, k, rfl, by omega, rfl, HR.out.2, z0, z1, z2, hB, hs2, (HR.out.1.below hB).imp fun _ h _ => .inl h⟩
  case round =>
    obtain ⟨i, u, q, rfl, hi, hn, hfi, hq, hz, he, hB, hs, hR⟩ := hrel
    have hsm := fine_small hfi
    have hms : u.most < 1000000 := by have := most_clo hsm.1; have := hsm.2.1; omega
    have hdp : u.depth < 1000000 := by have := hsm.2.1; omega
    obtain ⟨e0, e1, e2, e3, e4, e5, e6, e7, e8⟩ := cells_of_block hq
    have hlt : w.heap.size < wr.heap.size := by omega
    have HS := Lib.hid (pstep_calls u hms hdp wr _ q hR)
    have H := Lib.hid (And.intro hn (And.intro hfi (And.intro hq (And.intro hz (And.intro he (And.intro hB (And.intro hR hsm)))))))
    clear hn hfi hq hz he hB hR hsm hms HZ HR
    cases hst : u.step with
    | none =>
      have HS : Hid (Calls Try.prog 23 #[q.val] wr (No wr)) := Lib.hid (HS.out.mono fun e w' h => by simpa [Steps, hst] using h)
      go_wp2_with fail
      refine HS.out.mono ?_
      rintro e w3 ⟨k3, rfl, hb3⟩
      have q0 := (hb3.block w.heap.size hlt).trans H.out.2.2.1
      have hs3 : w.heap.size + 3 ≤ w3.heap.size := by have := hb3.size; omega
      have HB3 := Lib.hid hb3
      clear hb3 e0 e1 e2 e3 e4 e5 e6 e7 e8
      obtain ⟨e0, e1, e2, e3, e4, e5, e6, e7, e8⟩ := cells_of_block q0
      have hlt3 : w.heap.size < w3.heap.size := by omega
      clear q0
      go_wp2_with fail
      have hR3 := (H.out.2.2.2.2.2.2.1.below HB3.out).below (alloc_below w3 k3.obj)
      refine (prog_copied u hdp _ _ q hR3).mono ?_
      rintro e w4 ⟨k4, rfl, hr4, hb4⟩
      have hs4 := hb4.size
      simp only [World.size_alloc] at hs4
      have b34 := HB3.out.trans (((alloc_below w3 k3.obj).trans (hb4.mono (by simp))).mono HB3.out.size)
      have p1 := (b34.block (w.heap.size + 1) (by omega)).trans H.out.2.2.2.1
      have p2 := (b34.block (w.heap.size + 1 + 1) (by omega)).trans H.out.2.2.2.2.1
      have hE : (∃ v, norm fuel t = some v ∧ v = u) := ⟨u, by rw [← H.out.1]; cases fuel - i <;> simp [norm, hst], rfl⟩
      have H4 := Lib.hid (And.intro hr4 (And.intro b34 (And.intro p1 (And.intro p2 hE))))
      clear hr4 hb4 b34 hE hR3 e0 e1 e2 e3 e4 e5 e6 e7 e8
      have f0 := (cells_of_block p1).1
      have f1 := (cells_of_block p1).2.1
      have f2 := (cells_of_block p1).2.2.1
      have f3 := (cells_of_block p1).2.2.2.1
      have f4 := (cells_of_block p1).2.2.2.2.1
      have f5 := (cells_of_block p1).2.2.2.2.2.1
      have f6 := (cells_of_block p1).2.2.2.2.2.2.1
      have f7 := (cells_of_block p1).2.2.2.2.2.2.2.1
      have f8 := (cells_of_block p1).2.2.2.2.2.2.2.2
      have fz := free_of_block p1
      have g0 := cell_of_row _ _ 0 _ _ _ p2
      have gz := free_of_block p2
      simp at g0
      clear p1 p2
      go_wp2_with fail
      obtain ⟨hr4, b34, p1, p2, v, hv, rfl⟩ := H4.out
      have hB4 := H.out.2.2.2.2.2.1.trans (b34.mono (by omega))
      refine norm_last (s := w.heap.size) k4 0 (by rfl) (by rfl) rfl p1 p2 (by omega) (by omega) (by omega) ?_
      intro W' hW' hK
      rw [hv]
      refine ⟨k4, rfl, (hr4.move ?_).imp ?_, hB4.trans hW'⟩
      · rintro z ((⟨_, hz⟩ | hz) | hz) hl
        · exact hK z hl (by omega) (by omega)
        · exact hK z hl (by omega) (by omega)
        · simp at hz; exact hK z hl (by omega) (by omega)
      · rintro z ((⟨hz, _⟩ | hz) | hz) _
        · exact .inl hz
        · exact .inr (by omega)
        · simp at hz; exact .inr (by omega)
    | some u' =>
      have HS : Hid (Calls Try.prog 23 #[q.val] wr (Yes wr (fun z => ok z ∧ z < w.heap.size ∨ w.heap.size + 3 ≤ z) u')) := Lib.hid (HS.out.mono fun e w' h => by simpa [Steps, hst] using h)
      by_cases hlast : (fuel : Int) ≤ i
      · have hif : i = fuel := by omega
        have hN : norm fuel t = none := by rw [← H.out.1, hif]; simp [norm, hst]
        have HN := Lib.hid (And.intro hN hif)
        clear hN hif
        go_wp2_with fail
        refine HS.out.mono ?_
        rintro e w3 ⟨k3, rfl, hr3, hb3⟩
        have p1 := (hb3.block (w.heap.size + 1) (by omega)).trans H.out.2.2.2.1
        have p2 := (hb3.block (w.heap.size + 1 + 1) (by omega)).trans H.out.2.2.2.2.1
        have hs3 : w.heap.size + 3 ≤ w3.heap.size := by have := hb3.size; omega
        have p1' := (Below.heap_alloc w3 k3.obj (w.heap.size + 1) (by omega)).trans p1
        have p2' := (Below.heap_alloc w3 k3.obj (w.heap.size + 1 + 1) (by omega)).trans p2
        have H4 := Lib.hid (And.intro hb3 (And.intro p1' p2'))
        clear hb3 hr3 e0 e1 e2 e3 e4 e5 e6 e7 e8 p1' p2'
        have f0 := (cells_of_block p1).1
        have f1 := (cells_of_block p1).2.1
        have f2 := (cells_of_block p1).2.2.1
        have f3 := (cells_of_block p1).2.2.2.1
        have f4 := (cells_of_block p1).2.2.2.2.1
        have f5 := (cells_of_block p1).2.2.2.2.2.1
        have f6 := (cells_of_block p1).2.2.2.2.2.2.1
        have f7 := (cells_of_block p1).2.2.2.2.2.2.2.1
        have f8 := (cells_of_block p1).2.2.2.2.2.2.2.2
        have fz := free_of_block p1
        have g0 := cell_of_row _ _ 0 _ _ _ p2
        have gz := free_of_block p2
        simp at g0
        have l1 : w.heap.size + 1 < w3.heap.size := by omega
        have l2 : w.heap.size + 1 + 1 < w3.heap.size := by omega
        clear p1 p2
        go_wp2_with fail
        obtain ⟨hb3, p1, p2⟩ := H4.out
        have p1 := (Below.heap_alloc w3 k3.obj (w.heap.size + 1) (by omega)).symm.trans p1
        have p2 := (Below.heap_alloc w3 k3.obj (w.heap.size + 1 + 1) (by omega)).symm.trans p2
        have hB3 := H.out.2.2.2.2.2.1.trans (hb3.mono (by omega))
        refine norm_last' (s := w.heap.size) k3.obj ⟨0, ⟨#[]⟩, 0, none, 0, 0⟩ 8 (by rfl) (by rfl) rfl p1 p2 (by omega) (by omega) (by omega) ?_
        intro W' hW' _
        rw [HN.out.1]
        exact ⟨rfl, hB3.trans hW'⟩
      · have hif : i < fuel := by omega
        have hni : ¬ fuel ≤ i := by omega
        have hfu : fine (fuel - (i + 1)) u' ∧ norm (fuel - (i + 1)) u' = norm fuel t := by
          have h1 := H.out.1
          have h2 := H.out.2.1
          obtain ⟨j, hj⟩ : ∃ j, fuel - i = j + 1 := ⟨fuel - i - 1, by omega⟩
          have hj' : fuel - (i + 1) = j := by omega
          rw [hj] at h1 h2
          rw [hj']
          rw [norm_some hst] at h1
          exact ⟨h2.2 u' hst, h1⟩
        have HN := Lib.hid hfu
        clear hfu
        go_wp2_with fail
        refine HS.out.mono ?_
        rintro e w3 ⟨k3, rfl, hr3, hb3⟩
        have hs3 : w.heap.size + 3 ≤ w3.heap.size := by have := hb3.size; omega
        have H4 := Lib.hid (And.intro hb3 (hr3.below (alloc_below w3 k3.obj)))
        clear hb3 hr3 e0 e1 e2 e3 e4 e5 e6 e7 e8
        go_wp2_with fail
        refine (large_calls u' (fine_small HN.out.1).2.1 (fine_small HN.out.1).2.2 _ _ k3 H4.out.2).mono ?_
        rintro e w4 ⟨rfl, hb4⟩
        have q3 := (hb4.block w3.heap.size (by simp)).trans (Go.heap_alloc_new w3 _)
        have b34 := H4.out.1.trans (((alloc_below w3 k3.obj).trans (hb4.mono (by simp))).mono H4.out.1.size)
        have q0 := (b34.block w.heap.size hlt).trans H.out.2.2.1
        have hs4 : w3.heap.size + 1 ≤ w4.heap.size := by have := hb4.size; simp at this; omega
        have H5 := Lib.hid (And.intro b34 (And.intro q0 (And.intro q3 (H4.out.2.below hb4))))
        clear hb4 b34
        obtain ⟨e0, e1, e2, e3, e4, e5, e6, e7, e8⟩ := cells_of_block q0
        obtain ⟨f0, f1, f2, f3, f4, f5, f6, f7, f8⟩ := cells_of_block q3
        have ez := free_of_block q0
        clear q0 q3
        have hlt4 : w.heap.size < w4.heap.size := by omega
        go_wp2_with (go_at_call 21; refine (must_ok _).mono ?_; rintro e w5 ⟨rfl, rfl⟩)
        go_roundw
        case rel =>
          obtain ⟨b34, q0, q3, hr5⟩ := H5.out
          obtain ⟨V, hV, n1, n2, hsz⟩ := nineE (.int .i64 k3.op) (.string k3.name) (.int .i64 k3.num) (.int .i64 0) (.string ⟨#[]⟩) (.int .i64 0) (.slice none 0 0) (.slice none 0 0) (.slice k3.A k3.n k3.c) q0
          rw [hV]
          clear hV
          have p1 := (n2.block (w.heap.size + 1) (by omega) (by simp)).trans ((b34.block (w.heap.size + 1) (by omega)).trans H.out.2.2.2.1)
          have p2 := (n2.block (w.heap.size + 1 + 1) (by omega) (by simp; omega)).trans ((b34.block (w.heap.size + 1 + 1) (by omega)).trans H.out.2.2.2.2.1)
          refine ⟨i + 1, u', k3, by go_num, by omega, HN.out.2, HN.out.1, n1, p1, p2, below_gb (H.out.2.2.2.2.2.1.trans (b34.mono (by omega))) n2 (by omega) (by simp), by omega, ?_⟩
          refine (hr5.grown n2 ?_).imp ?_
          · rintro z ((⟨_, hz⟩ | hz) | hz) e <;> simp at e <;> omega
          · rintro z ((hz | hz) | hz) _
            · exact .inl hz
            · exact .inr hz
            · exact .inr (by omega)
        case measure => simp [intOf]; omega
end Go.Proofs.Ytogdjjleclbgcaa
