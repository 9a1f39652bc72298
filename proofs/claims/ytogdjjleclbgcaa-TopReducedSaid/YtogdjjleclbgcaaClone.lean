/- slices.Clone of terms: function 19. -/
import Derived.Test.YtogdjjleclbgcaaMore
import Derived.WalkSpells
namespace Go.Proofs.Ytogdjjleclbgcaa
open Go.RowKit

theorem news1 {w : World} {a : Nat} {k : Hd} (h : At0 w a k) : ∀ j u, k.cells[j]? = some u → w.cell? ((⟨a, 0, none⟩ : Addr).add j) = some u := by
  obtain ⟨c0, c1, c2, c3, c4, c5, c6, c7, c8⟩ := h
  intro j u hu
  have hadd : (⟨a, 0, none⟩ : Addr).add j = ⟨a, j, none⟩ := by unfold Addr.add; split <;> simp_all
  rw [hadd]
  match j, hu with
  | 0, hu => cases hu; exact c0
  | 1, hu => cases hu; exact c1
  | 2, hu => cases hu; exact c2
  | 3, hu => cases hu; exact c3
  | 4, hu => cases hu; exact c4
  | 5, hu => cases hu; exact c5
  | 6, hu => cases hu; exact c6
  | 7, hu => cases hu; exact c7
  | 8, hu => cases hu; exact c8
  | n + 9, hu => simp at hu
theorem news2 {w : World} {a : Nat} {k l : Hd} (h : At0 w a k) (h9 : At9 w a l) : ∀ j u, (k.cells ++ l.cells)[j]? = some u → w.cell? ((⟨a, 0, none⟩ : Addr).add j) = some u := by
  obtain ⟨c0, c1, c2, c3, c4, c5, c6, c7, c8⟩ := h9
  intro j u hu
  have hadd : (⟨a, 0, none⟩ : Addr).add j = ⟨a, j, none⟩ := by unfold Addr.add; split <;> simp_all
  by_cases hj : j < 9
  · exact news1 h j u (by rw [List.getElem?_append_left (by simpa using hj)] at hu; exact hu)
  · rw [hadd]
    obtain ⟨i, rfl⟩ : ∃ i, j = 9 + i := ⟨j - 9, by omega⟩
    rw [List.getElem?_append_right (by simp)] at hu
    simp only [List.length_cons, List.length_nil] at hu
    rw [show 9 + i - (0 + 1 + 1 + 1 + 1 + 1 + 1 + 1 + 1 + 1) = i by omega] at hu
    match i, hu with
    | 0, hu => cases hu; exact c0
    | 1, hu => cases hu; exact c1
    | 2, hu => cases hu; exact c2
    | 3, hu => cases hu; exact c3
    | 4, hu => cases hu; exact c4
    | 5, hu => cases hu; exact c5
    | 6, hu => cases hu; exact c6
    | 7, hu => cases hu; exact c7
    | 8, hu => cases hu; exact c8
    | n + 9, hu => simp at hu
theorem keep_alloc (w : World) (o : Obj) (a : Addr) (v : Value) (h : w.cell? a = some v) : (w.alloc o).cell? a = some v :=
  ((alloc_below w o).cell (World.block_lt_of_cell? w a h)).trans h

/-- A copy of a row. -/
def Cloned (w : World) (n : Nat) (cells : List Value) (e : Ending) (w' : World) : Prop :=
  ∃ g c, e = .returned (.slice (some ⟨g, 0, none⟩) n c) ∧ w'.ownsRow w.heap.size 31 9 (.slice (some ⟨g, 0, none⟩) n c) n cells ∧ Below w.heap.size w w'

set_option maxRecDepth 100000 in
set_option maxHeartbeats 800000 in
theorem clone1 (w : World) (a c : Nat) (k : Hd) (h0 : At0 w a k) : Calls Try.prog 19 #[.slice (some ⟨a, 0, none⟩) 1 c] w (Cloned w 1 k.cells) := by
  have ha := h0.lt
  have HN := Lib.hid ((news1 h0) : ∀ j u, k.cells[j]? = some u → w.cell? ((⟨a, 0, none⟩ : Addr).add j) = some u)
  clear h0
  obtain ⟨i0, hi0, hj0, hj1, hj2⟩ := info_parts info31
  have hne := fun (w : World) (A : Option Addr) (n c : Nat) => Lib.run_eql_slice_nil (P := Try.prog) w 29 31 A n c 0 0 under29
  go_enter Try.func19, Try.ntmps19
  go_wp2_with (at_builtin; refine wpList_append_lies _ rfl _ _ 29 rfl w.heap.size 31 i0 _ 9 136 under29 hi0 hj0 hj1 hj2 rfl (by omega) (.slice (some ⟨w.heap.size, 0, none⟩) 0 0) 0 [] rfl ⟨rfl, .inr ⟨_, _, _, rfl, Nat.le_refl _, Go.heap_alloc_new w _, by omega, by unfold maxLen; omega, rfl, rfl⟩⟩ ⟨a, 0, none⟩ 1 c k.cells rfl rfl (fun j u hu => (keep_alloc w _ _ _ (HN.out j u hu))) (by simp [Value.oneCell']) (by omega) (by unfold maxLen; omega) (by omega) (by simp) (w.heap.size + 1) (by simp) ?_; intro gg cap w2 hown hgrow hat hlt; have HH := Lib.hid (And.intro hown (And.intro hgrow hat)); clear hown hgrow hat)
  go_ret
  exact ⟨gg, cap, rfl, by simpa using HH.out.1, below_gb (alloc_below w _) HH.out.2.1 (by simp) (by simp [Value.ownBlock])⟩

set_option maxRecDepth 100000 in
set_option maxHeartbeats 800000 in
theorem clone2 (w : World) (a c : Nat) (k l : Hd) (h0 : At0 w a k) (h9 : At9 w a l) : Calls Try.prog 19 #[.slice (some ⟨a, 0, none⟩) 2 c] w (Cloned w 2 (k.cells ++ l.cells)) := by
  have ha := h0.lt
  have HN := Lib.hid ((news2 h0 h9) : ∀ j u, (k.cells ++ l.cells)[j]? = some u → w.cell? ((⟨a, 0, none⟩ : Addr).add j) = some u)
  clear h0 h9
  obtain ⟨i0, hi0, hj0, hj1, hj2⟩ := info_parts info31
  have hne := fun (w : World) (A : Option Addr) (n c : Nat) => Lib.run_eql_slice_nil (P := Try.prog) w 29 31 A n c 0 0 under29
  go_enter Try.func19, Try.ntmps19
  go_wp2_with (at_builtin; refine wpList_append_lies _ rfl _ _ 29 rfl w.heap.size 31 i0 _ 9 136 under29 hi0 hj0 hj1 hj2 rfl (by omega) (.slice (some ⟨w.heap.size, 0, none⟩) 0 0) 0 [] rfl ⟨rfl, .inr ⟨_, _, _, rfl, Nat.le_refl _, Go.heap_alloc_new w _, by omega, by unfold maxLen; omega, rfl, rfl⟩⟩ ⟨a, 0, none⟩ 2 c (k.cells ++ l.cells) rfl rfl (fun j u hu => (keep_alloc w _ _ _ (HN.out j u hu))) (by simp [Value.oneCell']) (by omega) (by unfold maxLen; omega) (by omega) (by simp) (w.heap.size + 1) (by simp) ?_; intro gg cap w2 hown hgrow hat hlt; have HH := Lib.hid (And.intro hown (And.intro hgrow hat)); clear hown hgrow hat)
  go_ret
  exact ⟨gg, cap, rfl, by simpa using HH.out.1, below_gb (alloc_below w _) HH.out.2.1 (by simp) (by simp [Value.ownBlock])⟩

set_option maxRecDepth 100000 in
set_option maxHeartbeats 800000 in
theorem clone0 (w : World) : Calls Try.prog 19 #[.slice none 0 0] w (fun e w' => e = .returned (.slice none 0 0) ∧ Below w.heap.size w w') := by
  have hne := fun (w : World) (A : Option Addr) (n c : Nat) => Lib.run_eql_slice_nil (P := Try.prog) w 29 31 A n c 0 0 under29
  go_enter Try.func19, Try.ntmps19
  go_wp2
  go_ret
  exact ⟨rfl, Below.refl _ _⟩

end Go.Proofs.Ytogdjjleclbgcaa
