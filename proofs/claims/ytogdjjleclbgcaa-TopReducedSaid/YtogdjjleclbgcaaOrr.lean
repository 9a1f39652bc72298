/- cmp.Or. -/
import Derived.Test.YtogdjjleclbgcaaSmall
namespace Go.Proofs.Ytogdjjleclbgcaa
open Go.RowKit

def orI : List Int → Int
  | [] => 0
  | x :: xs => if x = 0 then orI xs else x
set_option maxRecDepth 100000 in
set_option maxHeartbeats 800000 in
theorem or_calls (g : Nat) (x0 x1 x2 x3 x4 : Int) (w : World) (h0 : w.cell? ⟨g, 0, none⟩ = some (.int .i64 x0)) (h1 : w.cell? ⟨g, 1, none⟩ = some (.int .i64 x1)) (h2 : w.cell? ⟨g, 2, none⟩ = some (.int .i64 x2)) (h3 : w.cell? ⟨g, 3, none⟩ = some (.int .i64 x3)) (h4 : w.cell? ⟨g, 4, none⟩ = some (.int .i64 x4)) :
    Calls Try.prog 31 #[.slice (some ⟨g, 0, none⟩) 5 5] w (fun e w' => e = .returned (.int .i64 (orI [x0, x1, x2, x3, x4])) ∧ w' = w) := by
  go_enter Try.func31, Try.ntmps31
  go_wp2
  refine wp_loop_rounds 6 ?_
  rw [rounds_succ]
  by_cases e0 : x0 = 0
  · subst e0
    go_wp2
    rw [rounds_succ]
    by_cases e1 : x1 = 0
    · subst e1
      go_wp2
      rw [rounds_succ]
      by_cases e2 : x2 = 0
      · subst e2
        go_wp2
        rw [rounds_succ]
        by_cases e3 : x3 = 0
        · subst e3
          go_wp2
          rw [rounds_succ]
          by_cases e4 : x4 = 0
          · subst e4
            go_wp2
            rw [rounds_succ]
            go_wp2
            go_ret
            exact ⟨by simp [orI], rfl⟩
          · have n4 : (x4 != 0) = true := by simpa using e4
            go_wp2
            go_ret
            exact ⟨by simp [orI, e4], rfl⟩
        · have n3 : (x3 != 0) = true := by simpa using e3
          go_wp2
          go_ret
          exact ⟨by simp [orI, e3], rfl⟩
      · have n2 : (x2 != 0) = true := by simpa using e2
        go_wp2
        go_ret
        exact ⟨by simp [orI, e2], rfl⟩
    · have n1 : (x1 != 0) = true := by simpa using e1
      go_wp2
      go_ret
      exact ⟨by simp [orI, e1], rfl⟩
  · have n0 : (x0 != 0) = true := by simpa using e0
    go_wp2
    go_ret
    exact ⟨by simp [orI, e0], rfl⟩

end Go.Proofs.Ytogdjjleclbgcaa
