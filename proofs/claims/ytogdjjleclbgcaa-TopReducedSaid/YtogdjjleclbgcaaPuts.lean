/- Put. -/
import Derived.Test.YtogdjjleclbgcaaChanges
namespace Go.Proofs.Ytogdjjleclbgcaa
open Go.RowKit

/-- What Put's change has captured. -/
def PW (s B C : Nat) (x : L) (kx : Hd) (okx : Nat → Prop) (w : World) : Prop := w.cell? ⟨C, 0, none⟩ = some (.int .i64 (-1)) ∧ At0 w B kx ∧ Rep w okx x kx ∧ s ≤ w.heap.size

set_option maxRecDepth 100000 in
set_option maxHeartbeats 800000 in
theorem put1_other (s B C : Nat) (x : L) (kx : Hd) (okx : Nat → Prop) (w : World) (k : Hd) (d : Int) (h4 : (k.op == 4) = false) (hP : PW s B C x kx okx w) :
    Calls Try.prog 35 #[k.val, .int .i64 d, .pointer (some ⟨B, 0, none⟩), .pointer (some ⟨C, 0, none⟩)] w (fun e w' => e = .returned (.tuple #[k.val, .bool false]) ∧ Below w.heap.size w w') := by
  obtain ⟨hC, h0, hr, _⟩ := hP
  have hB := h0.lt
  have hCl := World.block_lt_of_cell? w _ hC
  have HR := Lib.hid hr.bound
  clear hr
  obtain ⟨ha1, ha2, ha3, ha4, ha5, ha6⟩ := lts hB
  obtain ⟨hb1', hb2', hb3', hb4', hb5', hb6'⟩ := lts hCl
  obtain ⟨c0, c1, c2, c3, c4, c5, c6, c7, c8⟩ := h0
  go_enter Try.func35, Try.ntmps35
  go_wp2_with (go_at_call 37; refine (loose_other (-1) _ k d h4).mono ?_; rintro e w1 ⟨rfl, hb1⟩; have p1 := (hb1.block (w.heap.size + 1) (by simp)).trans (heap2 w _ _); have f0 := (cells_of_block p1).1; have f1 := (cells_of_block p1).2.1; have f2 := (cells_of_block p1).2.2.1; have f3 := (cells_of_block p1).2.2.2.1; have f4 := (cells_of_block p1).2.2.2.2.1; have f5 := (cells_of_block p1).2.2.2.2.2.1; have f6 := (cells_of_block p1).2.2.2.2.2.2.1; have f7 := (cells_of_block p1).2.2.2.2.2.2.2.1; have f8 := (cells_of_block p1).2.2.2.2.2.2.2.2; have fz := free_of_block p1)
  exact end9t k (.bool false) rfl (by rfl) (by rfl) rfl p1 (fun F hF _ => ⟨rfl, below_gb ((below2 w _ _).trans (hb1.mono (by simp; omega))) hF (by have := hb1.size; simp at this; omega) (by simp)⟩)

set_option maxRecDepth 100000 in
set_option maxHeartbeats 800000 in
theorem put1_low (s B C : Nat) (x : L) (kx : Hd) (okx : Nat → Prop) (w : World) (j d : Int) (h : j < d) (hne : (j == d) = false) (hP : PW s B C x kx okx w) :
    Calls Try.prog 35 #[Hd.val ⟨4, ⟨#[]⟩, j, none, 0, 0⟩, .int .i64 d, .pointer (some ⟨B, 0, none⟩), .pointer (some ⟨C, 0, none⟩)] w (fun e w' => e = .returned (.tuple #[Hd.val ⟨4, ⟨#[]⟩, j, none, 0, 0⟩, .bool false]) ∧ Below w.heap.size w w') := by
  obtain ⟨hC, h0, hr, _⟩ := hP
  have hB := h0.lt
  have hCl := World.block_lt_of_cell? w _ hC
  have HR := Lib.hid hr.bound
  clear hr
  obtain ⟨ha1, ha2, ha3, ha4, ha5, ha6⟩ := lts hB
  obtain ⟨hb1', hb2', hb3', hb4', hb5', hb6'⟩ := lts hCl
  obtain ⟨c0, c1, c2, c3, c4, c5, c6, c7, c8⟩ := h0
  go_enter Try.func35, Try.ntmps35
  go_wp2_with (go_at_call 37; refine (loose_low (-1) _ j d h).mono ?_; rintro e w1 ⟨rfl, hb1⟩; have p1 := (hb1.block (w.heap.size + 1) (by simp)).trans (heap2 w _ _); have f0 := (cells_of_block p1).1; have f1 := (cells_of_block p1).2.1; have f2 := (cells_of_block p1).2.2.1; have f3 := (cells_of_block p1).2.2.2.1; have f4 := (cells_of_block p1).2.2.2.2.1; have f5 := (cells_of_block p1).2.2.2.2.2.1; have f6 := (cells_of_block p1).2.2.2.2.2.2.1; have f7 := (cells_of_block p1).2.2.2.2.2.2.2.1; have f8 := (cells_of_block p1).2.2.2.2.2.2.2.2; have fz := free_of_block p1)
  exact end9t ⟨4, ⟨#[]⟩, j, none, 0, 0⟩ (.bool false) rfl (by rfl) (by rfl) rfl p1 (fun F hF _ => ⟨rfl, below_gb ((below2 w _ _).trans (hb1.mono (by simp; omega))) hF (by have := hb1.size; simp at this; omega) (by simp)⟩)

set_option maxRecDepth 100000 in
set_option maxHeartbeats 800000 in
theorem put1_high (s B C : Nat) (x : L) (kx : Hd) (okx : Nat → Prop) (w : World) (j d : Int) (h : d ≤ j) (hne : (j == d) = false) (hw : wrap64 (j + (-1)) = j + (-1)) (hP : PW s B C x kx okx w) :
    Calls Try.prog 35 #[Hd.val ⟨4, ⟨#[]⟩, j, none, 0, 0⟩, .int .i64 d, .pointer (some ⟨B, 0, none⟩), .pointer (some ⟨C, 0, none⟩)] w (fun e w' => e = .returned (.tuple #[Hd.val ⟨4, ⟨#[]⟩, j + (-1), none, 0, 0⟩, .bool false]) ∧ Below w.heap.size w w') := by
  obtain ⟨hC, h0, hr, _⟩ := hP
  have hB := h0.lt
  have hCl := World.block_lt_of_cell? w _ hC
  have HR := Lib.hid hr.bound
  clear hr
  obtain ⟨ha1, ha2, ha3, ha4, ha5, ha6⟩ := lts hB
  obtain ⟨hb1', hb2', hb3', hb4', hb5', hb6'⟩ := lts hCl
  obtain ⟨c0, c1, c2, c3, c4, c5, c6, c7, c8⟩ := h0
  go_enter Try.func35, Try.ntmps35
  go_wp2_with (go_at_call 37; refine (loose_high (-1) _ j d h hw).mono ?_; rintro e w1 ⟨rfl, hb1⟩; have p1 := (hb1.block (w.heap.size + 1) (by simp)).trans (heap2 w _ _); have f0 := (cells_of_block p1).1; have f1 := (cells_of_block p1).2.1; have f2 := (cells_of_block p1).2.2.1; have f3 := (cells_of_block p1).2.2.2.1; have f4 := (cells_of_block p1).2.2.2.2.1; have f5 := (cells_of_block p1).2.2.2.2.2.1; have f6 := (cells_of_block p1).2.2.2.2.2.2.1; have f7 := (cells_of_block p1).2.2.2.2.2.2.2.1; have f8 := (cells_of_block p1).2.2.2.2.2.2.2.2; have fz := free_of_block p1)
  exact end9t ⟨4, ⟨#[]⟩, j + (-1), none, 0, 0⟩ (.bool false) rfl (by rfl) (by rfl) rfl p1 (fun F hF _ => ⟨rfl, below_gb ((below2 w _ _).trans (hb1.mono (by simp; omega))) hF (by have := hb1.size; simp at this; omega) (by simp)⟩)

set_option maxRecDepth 100000 in
set_option maxHeartbeats 800000 in
theorem put1_same (s B C : Nat) (x : L) (m1 : x.most < 1000000) (m2 : x.depth + 0 < 1000000) (kx : Hd) (okx : Nat → Prop) (w : World) (d : Nat) (hd : d < 1000000) (hP : PW s B C x kx okx w) :
    Calls Try.prog 35 #[Hd.val ⟨4, ⟨#[]⟩, d, none, 0, 0⟩, .int .i64 d, .pointer (some ⟨B, 0, none⟩), .pointer (some ⟨C, 0, none⟩)] w (fun e w' => ∃ k : Hd, e = .returned (.tuple #[k.val, .bool true]) ∧ Rep w' (fun z => (okx z ∧ z < w.heap.size) ∨ w.heap.size ≤ z) (x.lift d 0) k ∧ Below w.heap.size w w') := by
  have HM := Lib.hid (And.intro m1 m2)
  clear m1 m2
  have hne : ((d : Int) == d) = true := by simp
  obtain ⟨hC, h0, hr, _⟩ := hP
  have hB := h0.lt
  have hCl := World.block_lt_of_cell? w _ hC
  have HR := Lib.hid hr.bound
  clear hr
  obtain ⟨ha1, ha2, ha3, ha4, ha5, ha6⟩ := lts hB
  obtain ⟨hb1', hb2', hb3', hb4', hb5', hb6'⟩ := lts hCl
  obtain ⟨c0, c1, c2, c3, c4, c5, c6, c7, c8⟩ := h0
  go_enter Try.func35, Try.ntmps35
  go_wp2_with (go_at_call 36; refine (prog_lift x d hd HM.out.1 HM.out.2 _ _ kx (HR.out.below (below2 w _ _))).mono ?_; rintro e w1 ⟨k1, rfl, hr1, hb1⟩; have p1 := (hb1.block (w.heap.size + 1) (by simp)).trans (heap2 w _ _); have f0 := (cells_of_block p1).1; have f1 := (cells_of_block p1).2.1; have f2 := (cells_of_block p1).2.2.1; have f3 := (cells_of_block p1).2.2.2.1; have f4 := (cells_of_block p1).2.2.2.2.1; have f5 := (cells_of_block p1).2.2.2.2.2.1; have f6 := (cells_of_block p1).2.2.2.2.2.2.1; have f7 := (cells_of_block p1).2.2.2.2.2.2.2.1; have f8 := (cells_of_block p1).2.2.2.2.2.2.2.2; have fz := free_of_block p1; have HQ := Lib.hid (And.intro hr1 hb1); clear hr1 hb1)
  refine end9t k1 (.bool true) rfl (by rfl) (by rfl) rfl p1 (fun F hF _ => ⟨k1, rfl, ?_, ?_⟩)
  · refine (HQ.out.1.bound.grown hF ?_).imp ?_
    · rintro z ⟨⟨_, hz⟩ | hz, _⟩ e
      · simp at e; omega
      · simp at e hz; omega
    · rintro z ⟨⟨hz, hz'⟩ | hz, _⟩ _
      · exact .inl ⟨hz, hz'⟩
      · exact .inr (by simp at hz; omega)
  · exact below_gb ((below2 w _ _).trans (HQ.out.2.mono (by simp; omega))) hF (by have := HQ.out.2.size; simp at this; omega) (by simp)

theorem PW.later {s B C : Nat} {x : L} {kx : Hd} {okx : Nat → Prop} {w w' : World} (h : PW s B C x kx okx w) (hb : Below w.heap.size w w') : PW s B C x kx okx w' :=
  ⟨(hb.cell (World.block_lt_of_cell? w _ h.1)).trans h.1, h.2.1.move (hb.block B h.2.1.lt), h.2.2.1.below hb, Nat.le_trans h.2.2.2 hb.size⟩

/-- A term is put for a loose number. -/
theorem putted (s B C : Nat) (x : L) (m1 : x.most < 1000000) (m2 : x.depth + 0 < 1000000) (kx : Hd) (okx : Nat → Prop) (hs : ∀ z, okx z → z < s) (t : L) : ∀ (d : Nat), t.most < 1000000 → t.depth + d < 1000000 → ∀ (w : World) (ok : Nat → Prop) (k : Hd) (i : Int), i = d → Rep w ok t k → PW s B C x kx okx w →
    (∀ z, okx z → ok z) → Calls Try.prog 29 #[.func (.func 35) #[] #[.pointer (some ⟨B, 0, none⟩), .pointer (some ⟨C, 0, none⟩)], k.val, .int .i64 i] w (Gives w ok (L.put x d t)) := by
  have eg := enters_of Try.func35 (by kernel_rfl) rfl
  have hK : Kept (PW s B C x kx okx) 35 #[] #[.pointer (some ⟨B, 0, none⟩), .pointer (some ⟨C, 0, none⟩)] := fun w k d hP h4 => by rw [arr2]; exact put1_other s B C x kx okx w k d h4 hP
  have hF : ∀ {w : World}, PW s B C x kx okx w → Fine (PW s B C x kx okx) w := fun h _ hb => h.later hb
  induction t with
  | free => intro d _ _ w ok k i hi hr hP _; cases hr; exact made_flat 35 _ _ eg 2 sName 0 2 sName 0 rfl .free (fun _ _ => rfl) i w ok fun w' hb => by rw [arr2]; exact put1_other s B C x kx okx w' ⟨2, sName, 0, none, 0, 0⟩ i rfl (hP.later hb)
  | var => intro d _ _ w ok k i hi hr hP _; cases hr; exact made_flat 35 _ _ eg 3 zName 3 3 zName 3 rfl .var (fun _ _ => rfl) i w ok fun w' hb => by rw [arr2]; exact put1_other s B C x kx okx w' ⟨3, zName, 3, none, 0, 0⟩ i rfl (hP.later hb)
  | bnd j =>
    intro d h1 h2 w ok k i hi hr hP ho
    cases hr
    subst hi
    simp only [L.most] at h1
    simp only [L.depth] at h2
    by_cases hj : j = d
    · subst hj
      simp only [L.put, if_true]
      exact made_done 35 _ _ eg ⟨4, ⟨#[]⟩, j, none, 0, 0⟩ _ j w ok fun w' hb => by
        rw [arr2]
        exact (put1_same s B C x m1 m2 kx okx w' j (by omega) (hP.later hb)).mono fun e w'' h => by
          obtain ⟨k, he, hr, hb'⟩ := h
          exact ⟨k, he, hr.imp (fun z hz _ => hz.elim (fun h => .inl ⟨ho z h.1, Nat.lt_of_lt_of_le (hs z h.1) hP.2.2.2⟩) .inr), hb'⟩
    · simp only [L.put, if_neg hj]
      by_cases hd : d < j
      · rw [if_pos hd]
        exact made_flat 35 _ _ eg 4 ⟨#[]⟩ j 4 ⟨#[]⟩ (j + (-1)) rfl (.bnd (j - 1)) (fun _ _ => by simp only [Rep]; congr 1; omega) d w ok fun w' hb => by rw [arr2]; exact put1_high s B C x kx okx w' j d (by omega) (by simp; omega) (by unfold wrap64; omega) (hP.later hb)
      · rw [if_neg hd]
        exact made_flat 35 _ _ eg 4 ⟨#[]⟩ j 4 ⟨#[]⟩ j rfl (.bnd j) (fun _ _ => rfl) d w ok fun w' hb => by rw [arr2]; exact put1_low s B C x kx okx w' j d (by omega) (by simp; omega) (hP.later hb)
  | abs b ih =>
    intro d h1 h2 w ok k i hi hr hP ho
    subst hi
    simp only [L.depth] at h2
    exact made_abs 35 _ _ eg (PW s B C x kx okx) hK b _ d (by omega) w ok k hr (hF hP) fun w' ok' k i hi hr hP' ho' => ih (d + 1) h1 (by omega) w' ok' k i hi hr (hP' _ (Below.refl _ _)) (fun z hz => ho' z (ho z hz) (Nat.lt_of_lt_of_le (hs z hz) hP.2.2.2))
  | app f y ih1 ih2 =>
    intro d h1 h2 w ok k i hi hr hP ho
    subst hi
    simp only [L.depth] at h2
    simp only [L.most] at h1
    exact made_app 35 _ _ eg (PW s B C x kx okx) hK f y _ _ d w ok k hr (hF hP) (fun w' ok' k hr hP' ho' => ih1 d (by omega) (by omega) w' ok' k _ rfl hr (hP' _ (Below.refl _ _)) (fun z hz => ho' z (ho z hz) (Nat.lt_of_lt_of_le (hs z hz) hP.2.2.2))) (fun w' ok' k hr hP' ho' => ih2 d (by omega) (by omega) w' ok' k _ rfl hr (hP' _ (Below.refl _ _)) (fun z hz => ho' z (ho z hz) (Nat.lt_of_lt_of_le (hs z hz) hP.2.2.2)))

theorem gen4' {f : FuncId} {args : Array Value} {R : Ending → World → Prop} {w : World} {A B C D : Obj}
    (h : ∀ W, Below w.heap.size w W → W.heap.size = w.heap.size + 4 → W.heap[w.heap.size]? = some A → W.heap[w.heap.size + 1]? = some B → W.heap[w.heap.size + 1 + 1]? = some C → W.heap[w.heap.size + 1 + 1 + 1]? = some D → Calls Try.prog f args W R) :
    Calls Try.prog f args ((((w.alloc A).alloc B).alloc C).alloc D) R := by
  obtain ⟨hb, hs, g0, g1, g2, g3⟩ := four w A B C D
  exact h _ hb hs g0 g1 g2 g3

set_option maxRecDepth 100000 in
set_option maxHeartbeats 800000 in
theorem prog_put (x : L) (m1 : x.most < 1000000) (m2 : x.depth + 0 < 1000000) (t : L) (m3 : t.most < 1000000) (m4 : t.depth + 0 < 1000000) (w : World) (ok : Nat → Prop) (k kx : Hd) (hr : Rep w ok t k) (hx : Rep w ok x kx) : Calls Try.prog 26 #[k.val, kx.val] w (Gives w ok (L.put x 0 t)) := by
  have HR := Lib.hid (And.intro hr.bound hx.bound)
  have HM := Lib.hid (And.intro m1 (And.intro m2 (And.intro m3 m4)))
  clear hr hx m1 m2 m3 m4
  have hmf : ∀ (fn : Fn) (first cap : Array Value) (w : World), (Instr.makeFunc fn first cap).run Try.prog w = .ok (.func fn first cap) w := fun _ _ _ _ => rfl
  go_enter Try.func26, Try.ntmps26
  go_wp2_with fail
  refine gen4' ?_
  intro W hb hs g0 g1 g2 g3
  refine (putted w.heap.size (w.heap.size + 1) (w.heap.size + 1 + 1 + 1) x HM.out.1 HM.out.2.1 kx (fun z => ok z ∧ z < w.heap.size) (fun z h => h.2) t 0 HM.out.2.2.1 HM.out.2.2.2 W (fun z => ok z ∧ z < w.heap.size) k 0 rfl (HR.out.1.below hb) ⟨cell_of_row _ _ 0 _ _ _ g3, at0_of_block g1, HR.out.2.below hb, by omega⟩ (fun _ h => h)).mono ?_
  rintro e w1 ⟨k1, rfl, hr1, hb1⟩
  have p1 := (hb1.block (w.heap.size + 1 + 1) (by omega)).trans g2
  have f0 := (cells_of_block p1).1; have f1 := (cells_of_block p1).2.1; have f2 := (cells_of_block p1).2.2.1; have f3 := (cells_of_block p1).2.2.2.1; have f4 := (cells_of_block p1).2.2.2.2.1; have f5 := (cells_of_block p1).2.2.2.2.2.1; have f6 := (cells_of_block p1).2.2.2.2.2.2.1; have f7 := (cells_of_block p1).2.2.2.2.2.2.2.1; have f8 := (cells_of_block p1).2.2.2.2.2.2.2.2; have fz := free_of_block p1
  have hs1 := hb1.size
  have HQ := Lib.hid (And.intro hr1 (hb.trans (hb1.mono (by omega))))
  have hs2 : w.heap.size + 4 ≤ w1.heap.size := by omega
  have hs3 : w.heap.size + 4 ≤ W.heap.size := by omega
  clear hb1 hr1 hs hs1 g0 g1 g2 g3 hb
  go_wp2
  refine end9 k1 rfl (by rfl) rfl p1 (fun F hF _ => ⟨k1, rfl, ?_, ?_⟩)
  · refine (HQ.out.1.grown hF ?_).imp ?_
    · rintro z (⟨_, hz⟩ | hz) e
      · simp at e; omega
      · simp at e; omega
    · rintro z (⟨hz, _⟩ | hz) _
      · exact .inl hz
      · exact .inr (by omega)
  · exact below_gb HQ.out.2 hF (by omega) (by simp; omega)


end Go.Proofs.Ytogdjjleclbgcaa
