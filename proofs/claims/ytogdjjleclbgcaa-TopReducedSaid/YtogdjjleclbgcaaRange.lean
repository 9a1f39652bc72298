/- A range over a function that never leaves its loop: its iterator may write cells of its own. -/
import Derived.Test.YtogdjjleclbgcaaTypes
namespace Go.Proofs.Ytogdjjleclbgcaa
open Go.RowKit

/-- What lies below n or from B on lies as it lay. -/
def RKept (n B : Nat) (X Y : World) : Prop := X.heap.size ≤ Y.heap.size ∧ ∀ b, (b < n ∨ B ≤ b) → b < X.heap.size → Y.heap[b]? = X.heap[b]?

theorem RKept.refl (n B : Nat) (X : World) : RKept n B X X := ⟨Nat.le_refl _, fun _ _ _ => rfl⟩
theorem RKept.trans {n B : Nat} {X Y Z : World} (h : RKept n B X Y) (k : RKept n B Y Z) : RKept n B X Z :=
  ⟨Nat.le_trans h.1 k.1, fun b hb hl => (k.2 b hb (Nat.lt_of_lt_of_le hl h.1)).trans (h.2 b hb hl)⟩
theorem RKept.mono {n B B' : Nat} {X Y : World} (h : RKept n B X Y) (hB : B ≤ B') : RKept n B' X Y :=
  ⟨h.1, fun b hb hl => h.2 b (by omega) hl⟩
theorem RKept.grown {n B : Nat} {X Y : World} {row : Option Nat} (h : X.grownBy Y row) (hr : ∀ r, row = some r → n ≤ r ∧ r < B) : RKept n B X Y :=
  ⟨h.size, fun b hb hl => h.block b hl (fun e => by have := hr b e.symm; omega)⟩

/-- An invariant that speaks of nothing from B on. -/
def Deaf {α : Type} (B : Nat) (J : α → World → Prop) : Prop := ∀ s X Y row, J s X → X.grownBy Y row → (∀ r, row = some r → B ≤ r) → J s Y

/-- What an iterator does whose loop's record lies at l. -/
def Iterates {α : Type} (P : Program) (m : Nat) (gf : Nat) (lb : Array Value) (encs : α → Array Value) (n B l : Nat) (S : List α → Prop) (W : World) : Prop :=
  ∀ (J : List α → World → Prop), Deaf B J →
    (∀ k pre x X, J pre X → YieldAt Fence.wide k P l (encs x) X fun e Y => e = .returned (.bool true) ∧ J (pre ++ [x]) Y ∧ RKept n B X Y) →
    J [] W → CallsIn Fence.wide m P gf (#[.func (.yield l) #[] #[]] ++ lb) W fun e Y => (∃ v, e = .returned v) ∧ ∃ xs, S xs ∧ J xs Y

/-- How a body ends that never leaves. -/
def bodyAll {α : Type} (n B : Nat) (I : List α → World → Prop) (xs : List α) (X : World) : Exit → Act → World → Prop
  | .normal, _, Y => RKept n B X Y ∧ I xs Y
  | _, _, _ => False

theorem range_all {α : Type} {P : Program} {m : Nat} {g : Operand} {ps : Array Tmp} {assign body : Code} {Q : Exit → Act → World → Prop} {a : Act} {w : World}
    {gf : Nat} {lb : Array Value} (hg : a.eval g = .func (.func gf) #[] lb) (eg : ∀ args w, (callFunc gf args).run P w = .ok (.enter gf args) w)
    {encs : α → Array Value} {n : Nat} (hn : n ≤ w.heap.size) {S : List α → Prop} (hps : ∀ x, (encs x).size = ps.size)
    (I : List α → World → Prop) (hI : Deaf w.heap.size I) (h0 : I [] w)
    (hseq : ∀ W, Below w.heap.size w W → W.heap.size = w.heap.size + 2 → Iterates P (m - 1) gf lb encs n (w.heap.size + 2) (w.heap.size + 1) S W)
    (Ax : α → Act → World → Prop)
    (hassign : ∀ (l k : Nat) (x : α) (X : World) (K : Act → World → Prop), (∀ a' Y, X.grownBy Y none → (∀ Y' : World, (∀ b, X.heap.size ≤ b → Y'.heap[b]? = Y.heap[b]?) → Ax x a' Y') → K a' Y) →
      assign.wpIn (Fence.wide.inRound l) k P (Exit.then K (fun _ _ _ => False)) { tmps := (ps.zip (encs x)).foldl (fun t (p, v) => t.setIfInBounds p v) a.tmps, defers := [] } X)
    (hbody : ∀ (l k : Nat) (pre : List α) (x : α) (a' : Act) (X : World), w.heap.size + 2 ≤ X.heap.size → I pre X → Ax x a' X → body.wpIn (Fence.wide.inRound l) k P (bodyAll n w.heap.size I (pre ++ [x]) X) a' X)
    (hdone : ∀ (xs : List α) (W : World), S xs → I xs W → W.heap[w.heap.size]? = some (.deferred (some [])) → Q .normal { a with defers := { target := .collected w.heap.size, args := #[] } :: a.defers } W) :
    (Code.rangeFunc g ps assign body).wpIn Fence.wide m P Q a w := by
  refine wpIn_rangeFunc ?_
  intro fn hfn
  obtain ⟨rec, hrec⟩ : ∃ rec : LoopState → Loop, rec = fun st => { state := st, pending := none, fn, tmps := a.tmps, params := ps, assign, body, defers := w.heap.size } := ⟨_, rfl⟩
  obtain ⟨W1, hW1⟩ : ∃ W1, (w.alloc (.deferred (some []))).alloc (.loop (rec .ready)) = W1 := ⟨_, rfl⟩
  have hL1 : W1.heap[w.heap.size + 1]? = some (.loop (rec .ready)) := by
    rw [← hW1]; have := World.alloc_heap_new (w.alloc (.deferred (some []))) (.loop (rec .ready)); rwa [World.size_alloc] at this
  have hK1 : W1.heap[w.heap.size]? = some (.deferred (some [])) := by
    rw [← hW1]; exact (Below.heap_alloc _ _ _ (by simp)).trans (World.alloc_heap_new w _)
  have hs1 : W1.heap.size = w.heap.size + 2 := by rw [← hW1]; simp
  have hb1 : Below w.heap.size w W1 := by rw [← hW1]; exact below2 w _ _
  have hI1 : I [] W1 := by rw [← hW1]; exact hI _ _ _ none h0 (gb_trans (gb_alloc _ _) (gb_alloc _ _)) (by simp)
  have put : ∀ (X : World) (l : Nat) (o : Obj), X.grownBy (X.putObj l o) (some l) := grownBy_putObj'
  refine ⟨w.heap.size + 1, [{ target := .collected w.heap.size, args := #[] }], W1, { target := .fn (.func gf) lb, args := #[.func (.yield (w.heap.size + 1)) #[] #[]] }, W1, gf,
    #[.func (.yield (w.heap.size + 1)) #[] #[]] ++ lb, W1, ?_, ?_, ?_, ?_, (fun h => by cases h), ?_⟩
  · rw [← hW1, hrec]; exact run_enterLoop_outer _ _ _ _ _
  · simp only [resolve, hg]
    simp [go_sem]
  · intro f' hf'; trivial
  · simp [invoke, go_sem, eg]
  · refine (hseq W1 hb1 hs1 (fun pre W => I pre W ∧ W.heap[w.heap.size + 1]? = some (.loop (rec .ready)) ∧ W.heap[w.heap.size]? = some (.deferred (some [])))
      (fun s A B row hs hg' hr => ?_) ?_ ⟨hI1, hL1, hK1⟩).mono ?_
    · have hlt : w.heap.size + 1 < A.heap.size := (Array.getElem?_eq_some_iff.1 hs.2.1).1
      exact ⟨hI s A B row hs.1 hg' (fun r e => by have := hr r e; omega), (hg'.block _ hlt (fun e => by have := hr _ e.symm; omega)).trans hs.2.1,
        (hg'.block _ (by omega) (fun e => by have := hr _ e.symm; omega)).trans hs.2.2⟩
    · rintro k pre x X ⟨hi, hl, hk⟩
      have hlt : w.heap.size + 1 < X.heap.size := (Array.getElem?_eq_some_iff.1 hl).1
      have hy := run_yield (P := P) (args := encs x) hl (by rw [hrec]; exact hps x)
      rw [hrec] at hy
      refine ⟨fn, _, assign, body, hy, roundIn_of_wpIn hfn (hassign _ k x X _ ?_)⟩
      clear hy
      intro a' Y hY hax
      have hl2 : Y.heap[w.heap.size + 1]? = some (.loop (rec .ready)) := (hY.block _ hlt (by simp)).trans hl
      have hk2 : Y.heap[w.heap.size]? = some (.deferred (some [])) := (hY.block _ (by omega) (by simp)).trans hk
      have hltY : w.heap.size + 1 < Y.heap.size := (Array.getElem?_eq_some_iff.1 hl2).1
      have hiY : I pre Y := hI _ _ _ none hi hY (by simp)
      refine ⟨_, run_beginRound hl2 (by rw [hrec]), ?_⟩
      have hl3 : (Y.putObj (w.heap.size + 1) (.loop { rec .ready with state := .busy })).heap[w.heap.size + 1]? = some (.loop { rec .ready with state := .busy }) := World.putObj_heap_same hltY
      have hk3 : (Y.putObj (w.heap.size + 1) (.loop { rec .ready with state := .busy })).heap[w.heap.size]? = some (.deferred (some [])) := (World.putObj_heap_other (by omega)).trans hk2
      have hp3 := put Y (w.heap.size + 1) (.loop { rec .ready with state := .busy })
      have hi3 := hI _ _ _ _ hiY hp3 (by simp)
      have hsz3 := hp3.size
      have hax3 := hax (Y.putObj (w.heap.size + 1) (.loop { rec .ready with state := .busy })) (fun b hb => World.putObj_heap_other (by omega))
      generalize hY3 : Y.putObj (w.heap.size + 1) (.loop { rec .ready with state := .busy }) = Y3 at *
      refine wpIn_mono (hbody _ k pre x a' Y3 (by omega) hi3 hax3) ?_
      rintro e a3 Z hp
      cases e with
      | normal =>
        obtain ⟨hk4, hi4⟩ := hp
        have hl4 := (hk4.2 (w.heap.size + 1) (by omega) (by omega)).trans hl3
        have hd4 := (hk4.2 w.heap.size (by omega) (by omega)).trans hk3
        have hr := run_endRound (P := P) none hl4
        have hlt4 : w.heap.size + 1 < Z.heap.size := (Array.getElem?_eq_some_iff.1 hl4).1
        refine ⟨_, _, hr, rfl, ⟨hI _ _ _ _ hi4 (put _ _ _) (by simp), ?_, (World.putObj_heap_other (by omega)).trans hd4⟩, ?_⟩
        · rw [World.putObj_heap_same hlt4, hrec]; rfl
        · refine ((RKept.grown (hY.trans_none hp3) (fun r e => ?_)).trans (hk4.mono (by omega))).trans (RKept.grown (put Z _ _) (fun r e => ?_)) <;> (cases e; omega)
      | ret => exact hp.elim
      | exit id => exact hp.elim
      | goto t => exact hp.elim
      | panic ch => exact hp.elim
      | outgrown => exact hp.elim
    · rintro e W2 ⟨⟨v, rfl⟩, xs, hS, hi, hl, hk⟩
      exact ⟨none, _, by have := run_endLoop (P := P) hl (by rw [hrec]; simp); rw [hrec] at this; exact this, hdone xs _ hS (hI _ _ _ _ hi (put _ _ _) (by simp)) ((World.putObj_heap_other (by omega)).trans hk)⟩
end Go.Proofs.Ytogdjjleclbgcaa
