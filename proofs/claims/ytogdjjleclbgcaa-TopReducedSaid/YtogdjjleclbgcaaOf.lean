/- tileOf: the bytes that are drawn from. -/
import Derived.Test.YtogdjjleclbgcaaLess
import Derived.ProofKit
namespace Go.Proofs.Ytogdjjleclbgcaa
open Go.RowKit

/-- What the walk is told of a slice of integers that came in. -/
def IsRow (k : IntKind) (w : World) (a : Option Addr) (len cap : Nat) (zs : List Int) : Prop :=
  (a = none ∧ len = 0 ∧ cap = 0 ∧ zs = []) ∨
  ∃ x, a = some x ∧ len ≤ cap ∧ cap ≤ maxLen ∧ zs.length = cap ∧ (∀ i, i < zs.length → w.cell? (x.add i) = some (.int k (zs.getD i 0))) ∧ ∀ n ∈ zs, (Lit.int k n).wf = true

/-- What tileOf gives. -/
def Begun (w : World) (e : Ending) (w' : World) : Prop := e = .returned (.pointer (some ⟨w.heap.size, 0, none⟩)) ∧ Tile w' w.heap.size ∧ Below w.heap.size w w' ∧ w'.heap.size = w.heap.size + 1

theorem begun_of {w : World} {A : Option Addr} {n c : Nat} (hn : n ≤ 400) (h : ∀ j : Nat, j < n → ∃ b o v, A = some ⟨b, o, none⟩ ∧ b < w.heap.size ∧ w.cell? ⟨b, o + j, none⟩ = some (.int .u8 v)) :
    Begun w (.returned (.pointer (some ⟨w.heap.size, 0, none⟩))) (w.alloc (.cells #[.slice A n c, .int .i64 0, .int .u64 2437] 50)) := by
  refine ⟨rfl, ⟨A, n, c, 0, 2437, Go.heap_alloc_new w _, by omega, by omega, hn, fun j hj => ?_⟩, alloc_below _ _, by simp⟩
  obtain ⟨b, o, v, ha, hb, hc⟩ := h j hj
  exact ⟨b, o, v, ha, hb, ((alloc_below w _).cell (p := ⟨b, o + j, none⟩) hb).trans hc⟩

set_option maxRecDepth 100000 in
set_option maxHeartbeats 800000 in
theorem tile_nil (w : World) : Calls Try.prog 4 #[.slice none 0 0] w (Begun w) := by
  go_enter Try.func4, Try.ntmps4
  go_wp2
  go_ret
  exact begun_of (by omega) (fun j hj => by omega)

set_option maxRecDepth 100000 in
set_option maxHeartbeats 800000 in
theorem tile_some (w : World) (b o len cap : Nat) (zs : List Int) (hl : len ≤ cap) (hm : cap ≤ maxLen) (hz : zs.length = cap) (hc : ∀ i, i < zs.length → w.cell? ⟨b, o + i, none⟩ = some (.int .u8 (zs.getD i 0))) :
    Calls Try.prog 4 #[.slice (some ⟨b, o, none⟩) len cap] w (Begun w) := by
  have HC := Lib.hid hc
  have hz' : cap ≤ zs.length := by omega
  clear hc hz
  unfold maxLen at hm
  have fin : ∀ n c, n ≤ 400 → n ≤ cap → Begun w (.returned (.pointer (some ⟨w.heap.size, 0, none⟩))) (w.alloc (.cells #[.slice (some ⟨b, o, none⟩) n c, .int .i64 0, .int .u64 2437] 50)) := fun n c hn hn' =>
    begun_of hn (fun j hj => by
      have h := HC.out j (by omega)
      exact ⟨b, o, _, rfl, World.block_lt_of_cell? w _ h, h⟩)
  have HF := Lib.hid fin
  clear fin
  by_cases h400 : len < 400
  · go_enter Try.func4, Try.ntmps4
    go_wp2
    go_ret
    exact HF.out _ _ (by omega) (by omega)
  · have h4 : ¬ (len : Int) < 400 := by omega
    have h5 : 400 ≤ len := by omega
    have h6 : 400 ≤ cap := by omega
    go_enter Try.func4, Try.ntmps4
    go_wp2
    all_goals
      go_ret
      exact HF.out _ _ (by omega) (by omega)

set_option maxRecDepth 100000 in
set_option maxHeartbeats 800000 in
theorem tile_zero (w : World) (x : Addr) : Calls Try.prog 4 #[.slice (some x) 0 0] w (Begun w) := by
  go_enter Try.func4, Try.ntmps4
  go_wp2
  go_ret
  exact begun_of (by omega) (fun j hj => by omega)

theorem tile_any (w : World) (a : Option Addr) (len cap : Nat) (zs : List Int) (h : IsRow .u8 w a len cap zs) : Calls Try.prog 4 #[.slice a len cap] w (Begun w) := by
  rcases h with ⟨rfl, rfl, rfl, rfl⟩ | ⟨⟨b, o, s⟩, rfl, hl, hm, hz, hc, -⟩
  · exact tile_nil w
  · by_cases h0 : zs.length = 0
    · have hc0 : cap = 0 := by omega
      subst hc0
      obtain rfl : len = 0 := by omega
      exact tile_zero w _
    · have h1 := hc 0 (by omega)
      have hs : s = none := by simpa [Addr.add] using World.cell?_spot h1
      subst hs
      exact tile_some w b o len cap zs hl hm hz (fun i hi => by have := hc i hi; rwa [Addr.add_lit] at this)
end Go.Proofs.Ytogdjjleclbgcaa
