/- Small functions. -/
import Derived.Test.YtogdjjleclbgcaaMore
namespace Go.Proofs.Ytogdjjleclbgcaa
open Go.RowKit

set_option maxRecDepth 100000 in
set_option maxHeartbeats 800000 in
theorem must_ok (w : World) : Calls Try.prog 21 #[.int .i64 0] w (fun e w' => e = .returned (.tuple #[]) ∧ w' = w) := by
  go_enter Try.func21, Try.ntmps21
  go_wp2
  go_end0
  exact ⟨rfl, rfl⟩

def cmpI (a b : Int) : Int := if a < b then -1 else if b < a then 1 else 0
theorem cmpI_zero {a b : Int} : cmpI a b = 0 ↔ a = b := by
  unfold cmpI
  split
  · omega
  · split <;> omega

set_option maxRecDepth 100000 in
set_option maxHeartbeats 800000 in
theorem nan_int (a : Int) (w : World) : Calls Try.prog 41 #[.int .i64 a] w (fun e w' => e = .returned (.bool false) ∧ w' = w) := by
  have h : (a != a) = false := by simp
  go_enter Try.func41, Try.ntmps41
  go_wp2
  go_ret
  exact ⟨rfl, rfl⟩

set_option maxRecDepth 100000 in
set_option maxHeartbeats 800000 in
theorem nan_str (a : ByteArray) (w : World) : Calls Try.prog 40 #[.string a] w (fun e w' => e = .returned (.bool false) ∧ w' = w) := by
  go_enter Try.func40, Try.ntmps40
  go_wp2
  go_ret
  exact ⟨rfl, rfl⟩

set_option maxRecDepth 100000 in
set_option maxHeartbeats 800000 in
theorem cmp_int (a b : Int) (w : World) : Calls Try.prog 32 #[.int .i64 a, .int .i64 b] w (fun e w' => e = .returned (.int .i64 (cmpI a b)) ∧ w' = w) := by
  have key : ∀ {r : Int}, cmpI a b = r → ∀ (e : Ending) (w' : World), e = .returned (.int .i64 r) ∧ w' = w → e = .returned (.int .i64 (cmpI a b)) ∧ w' = w := fun h e w' hh => by rw [h]; exact hh
  by_cases h1 : a < b
  · have h : cmpI a b = -1 := by simp [cmpI, h1]
    rw [h]
    clear h key
    go_enter Try.func32, Try.ntmps32
    go_wp2_with (go_at_call 41; refine (nan_int _ _).mono ?_; rintro e w1 ⟨rfl, rfl⟩)
    go_ret
    exact ⟨rfl, rfl⟩
  · by_cases h2 : b < a
    · have h : cmpI a b = 1 := by simp [cmpI, h1, h2]
      rw [h]
      clear h key
      go_enter Try.func32, Try.ntmps32
      go_wp2_with (go_at_call 41; refine (nan_int _ _).mono ?_; rintro e w1 ⟨rfl, rfl⟩)
      go_ret
      exact ⟨rfl, rfl⟩
    · have h : cmpI a b = 0 := by simp [cmpI, h1, h2]
      rw [h]
      clear h key
      go_enter Try.func32, Try.ntmps32
      go_wp2_with (go_at_call 41; refine (nan_int _ _).mono ?_; rintro e w1 ⟨rfl, rfl⟩)
      go_ret
      exact ⟨rfl, rfl⟩

set_option maxRecDepth 100000 in
set_option maxHeartbeats 800000 in
theorem cmp_ee (w : World) : Calls Try.prog 30 #[.string ⟨#[]⟩, .string ⟨#[]⟩] w (fun e w' => e = .returned (.int .i64 0) ∧ w' = w) := by
  have hl : ∀ w : World, (binOp .lss 9 (.string ⟨#[]⟩) (.string ⟨#[]⟩)).run Try.prog w = .ok (.bool false) w := fun _ => by kernel_rfl
  have hg : ∀ w : World, (binOp .gtr 9 (.string ⟨#[]⟩) (.string ⟨#[]⟩)).run Try.prog w = .ok (.bool false) w := fun _ => by kernel_rfl
  have l1 : Op.bytesLess [] [] = false := by decide
  go_enter Try.func30, Try.ntmps30
  go_wp2_with (go_at_call 40; refine (nan_str _ _).mono ?_; rintro e w1 ⟨rfl, rfl⟩)
  go_ret
  exact ⟨rfl, rfl⟩

set_option maxRecDepth 100000 in
set_option maxHeartbeats 800000 in
theorem cmp_es (w : World) : Calls Try.prog 30 #[.string ⟨#[]⟩, .string ⟨#[115]⟩] w (fun e w' => e = .returned (.int .i64 (-1)) ∧ w' = w) := by
  have hl : ∀ w : World, (binOp .lss 9 (.string ⟨#[]⟩) (.string ⟨#[115]⟩)).run Try.prog w = .ok (.bool true) w := fun _ => by kernel_rfl
  have hg : ∀ w : World, (binOp .gtr 9 (.string ⟨#[]⟩) (.string ⟨#[115]⟩)).run Try.prog w = .ok (.bool false) w := fun _ => by kernel_rfl
  have l1 : Op.bytesLess [] [115] = true := by decide
  go_enter Try.func30, Try.ntmps30
  go_wp2_with (go_at_call 40; refine (nan_str _ _).mono ?_; rintro e w1 ⟨rfl, rfl⟩)
  go_ret
  exact ⟨rfl, rfl⟩

set_option maxRecDepth 100000 in
set_option maxHeartbeats 800000 in
theorem cmp_ez (w : World) : Calls Try.prog 30 #[.string ⟨#[]⟩, .string ⟨#[122]⟩] w (fun e w' => e = .returned (.int .i64 (-1)) ∧ w' = w) := by
  have hl : ∀ w : World, (binOp .lss 9 (.string ⟨#[]⟩) (.string ⟨#[122]⟩)).run Try.prog w = .ok (.bool true) w := fun _ => by kernel_rfl
  have hg : ∀ w : World, (binOp .gtr 9 (.string ⟨#[]⟩) (.string ⟨#[122]⟩)).run Try.prog w = .ok (.bool false) w := fun _ => by kernel_rfl
  have l1 : Op.bytesLess [] [122] = true := by decide
  go_enter Try.func30, Try.ntmps30
  go_wp2_with (go_at_call 40; refine (nan_str _ _).mono ?_; rintro e w1 ⟨rfl, rfl⟩)
  go_ret
  exact ⟨rfl, rfl⟩

set_option maxRecDepth 100000 in
set_option maxHeartbeats 800000 in
theorem cmp_se (w : World) : Calls Try.prog 30 #[.string ⟨#[115]⟩, .string ⟨#[]⟩] w (fun e w' => e = .returned (.int .i64 1) ∧ w' = w) := by
  have hl : ∀ w : World, (binOp .lss 9 (.string ⟨#[115]⟩) (.string ⟨#[]⟩)).run Try.prog w = .ok (.bool false) w := fun _ => by kernel_rfl
  have hg : ∀ w : World, (binOp .gtr 9 (.string ⟨#[115]⟩) (.string ⟨#[]⟩)).run Try.prog w = .ok (.bool true) w := fun _ => by kernel_rfl
  have l1 : Op.bytesLess [115] [] = false := by decide
  go_enter Try.func30, Try.ntmps30
  go_wp2_with (go_at_call 40; refine (nan_str _ _).mono ?_; rintro e w1 ⟨rfl, rfl⟩)
  go_ret
  exact ⟨rfl, rfl⟩

set_option maxRecDepth 100000 in
set_option maxHeartbeats 800000 in
theorem cmp_ss (w : World) : Calls Try.prog 30 #[.string ⟨#[115]⟩, .string ⟨#[115]⟩] w (fun e w' => e = .returned (.int .i64 0) ∧ w' = w) := by
  have hl : ∀ w : World, (binOp .lss 9 (.string ⟨#[115]⟩) (.string ⟨#[115]⟩)).run Try.prog w = .ok (.bool false) w := fun _ => by kernel_rfl
  have hg : ∀ w : World, (binOp .gtr 9 (.string ⟨#[115]⟩) (.string ⟨#[115]⟩)).run Try.prog w = .ok (.bool false) w := fun _ => by kernel_rfl
  have l1 : Op.bytesLess [115] [115] = false := by decide
  go_enter Try.func30, Try.ntmps30
  go_wp2_with (go_at_call 40; refine (nan_str _ _).mono ?_; rintro e w1 ⟨rfl, rfl⟩)
  go_ret
  exact ⟨rfl, rfl⟩

set_option maxRecDepth 100000 in
set_option maxHeartbeats 800000 in
theorem cmp_sz (w : World) : Calls Try.prog 30 #[.string ⟨#[115]⟩, .string ⟨#[122]⟩] w (fun e w' => e = .returned (.int .i64 (-1)) ∧ w' = w) := by
  have hl : ∀ w : World, (binOp .lss 9 (.string ⟨#[115]⟩) (.string ⟨#[122]⟩)).run Try.prog w = .ok (.bool true) w := fun _ => by kernel_rfl
  have hg : ∀ w : World, (binOp .gtr 9 (.string ⟨#[115]⟩) (.string ⟨#[122]⟩)).run Try.prog w = .ok (.bool false) w := fun _ => by kernel_rfl
  have l1 : Op.bytesLess [115] [122] = true := by decide
  go_enter Try.func30, Try.ntmps30
  go_wp2_with (go_at_call 40; refine (nan_str _ _).mono ?_; rintro e w1 ⟨rfl, rfl⟩)
  go_ret
  exact ⟨rfl, rfl⟩

set_option maxRecDepth 100000 in
set_option maxHeartbeats 800000 in
theorem cmp_ze (w : World) : Calls Try.prog 30 #[.string ⟨#[122]⟩, .string ⟨#[]⟩] w (fun e w' => e = .returned (.int .i64 1) ∧ w' = w) := by
  have hl : ∀ w : World, (binOp .lss 9 (.string ⟨#[122]⟩) (.string ⟨#[]⟩)).run Try.prog w = .ok (.bool false) w := fun _ => by kernel_rfl
  have hg : ∀ w : World, (binOp .gtr 9 (.string ⟨#[122]⟩) (.string ⟨#[]⟩)).run Try.prog w = .ok (.bool true) w := fun _ => by kernel_rfl
  have l1 : Op.bytesLess [122] [] = false := by decide
  go_enter Try.func30, Try.ntmps30
  go_wp2_with (go_at_call 40; refine (nan_str _ _).mono ?_; rintro e w1 ⟨rfl, rfl⟩)
  go_ret
  exact ⟨rfl, rfl⟩

set_option maxRecDepth 100000 in
set_option maxHeartbeats 800000 in
theorem cmp_zs (w : World) : Calls Try.prog 30 #[.string ⟨#[122]⟩, .string ⟨#[115]⟩] w (fun e w' => e = .returned (.int .i64 1) ∧ w' = w) := by
  have hl : ∀ w : World, (binOp .lss 9 (.string ⟨#[122]⟩) (.string ⟨#[115]⟩)).run Try.prog w = .ok (.bool false) w := fun _ => by kernel_rfl
  have hg : ∀ w : World, (binOp .gtr 9 (.string ⟨#[122]⟩) (.string ⟨#[115]⟩)).run Try.prog w = .ok (.bool true) w := fun _ => by kernel_rfl
  have l1 : Op.bytesLess [122] [115] = false := by decide
  go_enter Try.func30, Try.ntmps30
  go_wp2_with (go_at_call 40; refine (nan_str _ _).mono ?_; rintro e w1 ⟨rfl, rfl⟩)
  go_ret
  exact ⟨rfl, rfl⟩

set_option maxRecDepth 100000 in
set_option maxHeartbeats 800000 in
theorem cmp_zz (w : World) : Calls Try.prog 30 #[.string ⟨#[122]⟩, .string ⟨#[122]⟩] w (fun e w' => e = .returned (.int .i64 0) ∧ w' = w) := by
  have hl : ∀ w : World, (binOp .lss 9 (.string ⟨#[122]⟩) (.string ⟨#[122]⟩)).run Try.prog w = .ok (.bool false) w := fun _ => by kernel_rfl
  have hg : ∀ w : World, (binOp .gtr 9 (.string ⟨#[122]⟩) (.string ⟨#[122]⟩)).run Try.prog w = .ok (.bool false) w := fun _ => by kernel_rfl
  have l1 : Op.bytesLess [122] [122] = false := by decide
  go_enter Try.func30, Try.ntmps30
  go_wp2_with (go_at_call 40; refine (nan_str _ _).mono ?_; rintro e w1 ⟨rfl, rfl⟩)
  go_ret
  exact ⟨rfl, rfl⟩

end Go.Proofs.Ytogdjjleclbgcaa
