/- term.Compare and term.Equal on terms that memory holds. -/
import Derived.Test.YtogdjjleclbgcaaKids
namespace Go.Proofs.Ytogdjjleclbgcaa
open Go.RowKit

theorem rep_name {w : World} {ok : Nat → Prop} {t : L} {k : Hd} (h : Rep w ok t k) : k.name = ⟨#[]⟩ ∨ k.name = ⟨#[115]⟩ ∨ k.name = ⟨#[122]⟩ := by
  cases t with
  | free => cases h; exact .inr (.inl rfl)
  | var => cases h; exact .inr (.inr rfl)
  | bnd n => cases h; exact .inl rfl
  | abs b => obtain ⟨_, _, _, rfl, _⟩ := h; exact .inl rfl
  | app f x => obtain ⟨_, _, _, _, rfl, _⟩ := h; exact .inl rfl
theorem rep_op5 {w : World} {ok : Nat → Prop} {t : L} {k : Hd} (h : Rep w ok t k) (h5 : k.op = 5) : k.name = ⟨#[]⟩ := by
  cases t with
  | free => cases h; simp at h5
  | var => cases h; simp at h5
  | bnd n => cases h; rfl
  | abs b => obtain ⟨_, _, _, rfl, _⟩ := h; rfl
  | app f x => obtain ⟨_, _, _, _, rfl, _⟩ := h; rfl
theorem rep_n {w : World} {ok : Nat → Prop} {t : L} {k : Hd} (h : Rep w ok t k) : k.n ≤ 2 := by
  cases t with
  | free => cases h; simp
  | var => cases h; simp
  | bnd n => cases h; simp
  | abs b => obtain ⟨_, _, _, rfl, _⟩ := h; simp
  | app f x => obtain ⟨_, _, _, _, rfl, _⟩ := h; simp

theorem name_calls {w : World} {ok ok' : Nat → Prop} {t u : L} {k l : Hd} (h : Rep w ok t k) (h' : Rep w ok' u l) :
    ∃ cn : Int, (∀ w, Calls Try.prog 30 #[.string k.name, .string l.name] w (fun e w' => e = .returned (.int .i64 cn) ∧ w' = w)) ∧ (cn = 0 ↔ k.name = l.name) := by
  rcases rep_name h with e | e | e <;> rcases rep_name h' with e' | e' | e' <;> rw [e, e']
  · exact ⟨_, cmp_ee, by decide⟩
  · exact ⟨_, cmp_es, by decide⟩
  · exact ⟨_, cmp_ez, by decide⟩
  · exact ⟨_, cmp_se, by decide⟩
  · exact ⟨_, cmp_ss, by decide⟩
  · exact ⟨_, cmp_sz, by decide⟩
  · exact ⟨_, cmp_ze, by decide⟩
  · exact ⟨_, cmp_zs, by decide⟩
  · exact ⟨_, cmp_zz, by decide⟩

theorem orI_zero {a b c d e : Int} : orI [a, b, c, d, e] = 0 ↔ a = 0 ∧ b = 0 ∧ c = 0 ∧ d = 0 ∧ e = 0 := by
  simp only [orI]
  split <;> rename_i h1
  · split <;> rename_i h2
    · split <;> rename_i h3
      · split <;> rename_i h4
        · split <;> rename_i h5 <;> simp [h1, h2, h3, h4, h5]
        · simp [h4]
      · simp [h3]
    · simp [h2]
  · simp [h1]

theorem compare_fin {w : World} {ok ok' : Nat → Prop} {t u : L} {k l : Hd} (h : Rep w ok t k) (h' : Rep w ok' u l) (P : Int → Prop)
    (hK : ∀ w', Below w.heap.size w w' → Calls Try.prog 34 #[.slice k.A k.n k.c, .slice l.A l.n l.c, .func (.func 25) #[] #[]] w' (Ans P w'))
    (hP : ∀ r, P r → ((k.op = l.op ∧ k.name = l.name ∧ k.num = l.num ∧ r = 0) ↔ t = u)) : Calls Try.prog 25 #[k.val, l.val] w (Ans (fun r => r = 0 ↔ t = u) w) := by
  by_cases h5 : k.op = 5
  · refine (compare_abs k l (by simp [h5]) P w hK).mono ?_
    rintro e w' ⟨r, rfl, hr, hb⟩
    refine ⟨_, rfl, ?_, hb⟩
    show orI _ = 0 ↔ t = u
    rw [← hP r hr, orI_zero, cmpI_zero, cmpI_zero]
    constructor
    · rintro ⟨h1, -, h2, -, h3⟩
      exact ⟨h1, by rw [rep_op5 h h5, rep_op5 h' (by omega)], h2, h3⟩
    · rintro ⟨h1, -, h2, h3⟩
      exact ⟨h1, rfl, h2, rfl, h3⟩
  · obtain ⟨cn, hN, hn⟩ := name_calls h h'
    refine (compare_other k l (by simpa using h5) cn hN P w hK).mono ?_
    rintro e w' ⟨r, rfl, hr, hb⟩
    refine ⟨_, rfl, ?_, hb⟩
    show orI _ = 0 ↔ t = u
    rw [← hP r hr, orI_zero, cmpI_zero, cmpI_zero, hn]
    constructor
    · rintro ⟨h1, h2, h3, -, h4⟩
      exact ⟨h1, h2, h3, h4⟩
    · rintro ⟨h1, h2, h3, h4⟩
      exact ⟨h1, h2, h3, rfl, h4⟩

theorem rep_leaf {w : World} {ok : Nat → Prop} {u : L} {l : Hd} (h : Rep w ok u l) (hn : l.n = 0) : (u = .free ∧ l = ⟨2, sName, 0, none, 0, 0⟩) ∨ (u = .var ∧ l = ⟨3, zName, 3, none, 0, 0⟩) ∨ ∃ n : Nat, u = .bnd n ∧ l = ⟨4, ⟨#[]⟩, n, none, 0, 0⟩ := by
  cases u with
  | free => exact .inl ⟨rfl, h⟩
  | var => exact .inr (.inl ⟨rfl, h⟩)
  | bnd n => exact .inr (.inr ⟨n, rfl, h⟩)
  | abs b => obtain ⟨_, _, _, rfl, _⟩ := h; simp at hn
  | app f x => obtain ⟨_, _, _, _, rfl, _⟩ := h; simp at hn
theorem rep_inner {w : World} {ok : Nat → Prop} {u : L} {l : Hd} (h : Rep w ok u l) (hn : l.n ≠ 0) : (l.op = 5 ∧ ∃ b, u = .abs b) ∨ (l.op = 6 ∧ ∃ f x, u = .app f x) := by
  cases u with
  | free => cases h; simp at hn
  | var => cases h; simp at hn
  | bnd n => cases h; simp at hn
  | abs b => obtain ⟨_, _, _, rfl, _⟩ := h; exact .inl ⟨rfl, b, rfl⟩
  | app f x => obtain ⟨_, _, _, _, rfl, _⟩ := h; exact .inr ⟨rfl, f, x, rfl⟩

theorem compare_leaf {w : World} {ok ok' : Nat → Prop} {t u : L} {k l : Hd} (h : Rep w ok t k) (h' : Rep w ok' u l) (hn : k.n = 0) : Calls Try.prog 25 #[k.val, l.val] w (Ans (fun r => r = 0 ↔ t = u) w) := by
  refine compare_fin h h' (fun r => l.n = 0 → r = 0) (fun w' _ => ?_) (fun r hr => ?_)
  · have := kids_0 l.n l.c (rep_n h') l.A w'
    rcases rep_leaf h hn with ⟨rfl, rfl⟩ | ⟨rfl, rfl⟩ | ⟨n, rfl, rfl⟩ <;> exact this
  · by_cases hl : l.n = 0
    · have hr := hr hl
      subst hr
      rcases rep_leaf h hn with ⟨rfl, rfl⟩ | ⟨rfl, rfl⟩ | ⟨n, rfl, rfl⟩ <;> rcases rep_leaf h' hl with ⟨rfl, rfl⟩ | ⟨rfl, rfl⟩ | ⟨m, rfl, rfl⟩ <;> simp <;> omega
    · rcases rep_leaf h hn with ⟨rfl, rfl⟩ | ⟨rfl, rfl⟩ | ⟨n, rfl, rfl⟩ <;> rcases rep_inner h' hl with ⟨e, b, rfl⟩ | ⟨e, f, x, rfl⟩ <;> simp [e]

theorem compare_calls (t : L) : ∀ (u : L) (w : World) (ok ok' : Nat → Prop) (k l : Hd), Rep w ok t k → Rep w ok' u l → Calls Try.prog 25 #[k.val, l.val] w (Ans (fun r => r = 0 ↔ t = u) w) := by
  induction t with
  | free => intro u w ok ok' k l h h'; exact compare_leaf h h' (by cases h; rfl)
  | var => intro u w ok ok' k l h h'; exact compare_leaf h h' (by cases h; rfl)
  | bnd n => intro u w ok ok' k l h h'; exact compare_leaf h h' (by cases h; rfl)
  | abs b ih =>
    intro u w ok ok' k l h h'
    have hh := h
    obtain ⟨a, c, k', rfl, -, -, h0, hr⟩ := hh
    by_cases hl : l.n = 0
    · refine compare_fin h h' (fun _ => True) (fun w' hb => ?_) (fun r _ => ?_)
      · have := kids_s0 1 c (by omega) (by omega) a k' w' (h0.move (hb.block a h0.lt))
        rcases rep_leaf h' hl with ⟨rfl, rfl⟩ | ⟨rfl, rfl⟩ | ⟨m, rfl, rfl⟩ <;> exact this
      · rcases rep_leaf h' hl with ⟨rfl, rfl⟩ | ⟨rfl, rfl⟩ | ⟨m, rfl, rfl⟩ <;> simp
    · cases u with
      | abs b2 =>
        have hh := h'
        obtain ⟨a2, c2, l', rfl, -, -, h02, hr2⟩ := hh
        refine compare_fin h h' (fun r => r = 0 ↔ b = b2) (fun w' hb => ?_) (fun r hr' => ?_)
        · exact kids_11 c c2 a a2 k' l' _ w' (h0.move (hb.block a h0.lt)) (h02.move (hb.block a2 h02.lt)) (fun w2 hb2 =>
            ih b2 w2 _ _ k' l' (hr.below (hb.trans (hb2.mono hb.size))) (hr2.below (hb.trans (hb2.mono hb.size))))
        · simp [hr']
      | app f x =>
        have hh := h'
        obtain ⟨a2, c2, l1, l2, rfl, -, -, h02, h92, hf, hx⟩ := hh
        refine compare_fin h h' (fun _ => True) (fun w' hb => ?_) (fun r hr' => ?_)
        · exact kids_12 c c2 a a2 k' l1 _ w' (h0.move (hb.block a h0.lt)) (h02.move (hb.block a2 h02.lt)) (fun w2 hb2 =>
            ih f w2 _ _ k' l1 (hr.below (hb.trans (hb2.mono hb.size))) (hf.below (hb.trans (hb2.mono hb.size))))
        · simp
      | free => cases h'; simp at hl
      | var => cases h'; simp at hl
      | bnd n => cases h'; simp at hl
  | app f x ihf ihx =>
    intro u w ok ok' k l h h'
    have hh := h
    obtain ⟨a, c, k1, k2, rfl, -, -, h0, h9, hf, hx⟩ := hh
    by_cases hl : l.n = 0
    · refine compare_fin h h' (fun _ => True) (fun w' hb => ?_) (fun r _ => ?_)
      · have := kids_s0 2 c (by omega) (by omega) a k1 w' (h0.move (hb.block a h0.lt))
        rcases rep_leaf h' hl with ⟨rfl, rfl⟩ | ⟨rfl, rfl⟩ | ⟨m, rfl, rfl⟩ <;> exact this
      · rcases rep_leaf h' hl with ⟨rfl, rfl⟩ | ⟨rfl, rfl⟩ | ⟨m, rfl, rfl⟩ <;> simp
    · cases u with
      | abs b2 =>
        have hh := h'
        obtain ⟨a2, c2, l', rfl, -, -, h02, hr2⟩ := hh
        refine compare_fin h h' (fun _ => True) (fun w' hb => ?_) (fun r hr' => ?_)
        · exact kids_21 c c2 a a2 k1 k2 l' _ w' (h0.move (hb.block a h0.lt)) (h9.move (hb.block a h0.lt)) (h02.move (hb.block a2 h02.lt)) (fun w2 hb2 =>
            ihf b2 w2 _ _ k1 l' (hf.below (hb.trans (hb2.mono hb.size))) (hr2.below (hb.trans (hb2.mono hb.size))))
        · simp
      | app f2 x2 =>
        have hh := h'
        obtain ⟨a2, c2, l1, l2, rfl, -, -, h02, h92, hf2, hx2⟩ := hh
        refine compare_fin h h' (fun r => ((r = 0 ↔ f = f2) ∧ r ≠ 0) ∨ ((0 : Int) = 0 ↔ f = f2) ∧ (r = 0 ↔ x = x2)) (fun w' hb => ?_) (fun r hr' => ?_)
        · exact kids_22 c c2 a a2 k1 k2 l1 l2 (fun r => r = 0 ↔ f = f2) (fun r => r = 0 ↔ x = x2) w' (h0.move (hb.block a h0.lt)) (h9.move (hb.block a h0.lt)) (h02.move (hb.block a2 h02.lt)) (h92.move (hb.block a2 h02.lt)) (fun w2 hb2 =>
            ihf f2 w2 _ _ k1 l1 (hf.below (hb.trans (hb2.mono hb.size))) (hf2.below (hb.trans (hb2.mono hb.size)))) (fun w2 hb2 =>
            ihx x2 w2 _ _ k2 l2 (hx.below (hb.trans (hb2.mono hb.size))) (hx2.below (hb.trans (hb2.mono hb.size))))
        · rcases hr' with ⟨h1, h2⟩ | ⟨h1, h2⟩
          · simp only [L.app.injEq, ← h1]; simp [h2]
          · simp only [L.app.injEq, ← h1, ← h2]; simp
      | free => cases h'; simp at hl
      | var => cases h'; simp at hl
      | bnd n => cases h'; simp at hl

set_option maxRecDepth 100000 in
set_option maxHeartbeats 800000 in
theorem equal_calls (t u : L) (w : World) (ok ok' : Nat → Prop) (k l : Hd) (h : Rep w ok t k) (h' : Rep w ok' u l) : Calls Try.prog 14 #[k.val, l.val] w (fun e w' => e = .returned (.bool (decide (t = u))) ∧ Below w.heap.size w w') := by
  have HK := Lib.hid (compare_calls t u _ ok ok' k l (h.below (below2 w k.obj l.obj)) (h'.below (below2 w k.obj l.obj)))
  clear h h'
  go_enter Try.func14, Try.ntmps14
  go_wp2_with fail
  refine HK.out.mono ?_
  rintro e w1 ⟨r, rfl, hr, hb⟩
  have hB := (below2 w _ _).trans (hb.mono (by simp; omega))
  clear hb
  have hd : decide (t = u) = decide (r = 0) := by rw [decide_eq_decide]; exact hr.symm
  by_cases hz : r = 0
  · subst hz
    have HD := Lib.hid hd
    clear hd hr
    go_wp2
    go_ret
    exact ⟨by rw [HD.out]; rfl, hB⟩
  · have hz' : (r == 0) = false := by simpa using hz
    have hz2 : decide (r = 0) = false := by simpa using hz
    have HD := Lib.hid (hd.trans hz2)
    clear hd hr hz2 hz
    go_wp2
    go_ret
    exact ⟨by rw [HD.out]; rfl, hB⟩
end Go.Proofs.Ytogdjjleclbgcaa
