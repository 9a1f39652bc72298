/- The steps that are made by hand, and what Norm makes of them. -/
import Derived.Test.YtogdjjleclbgcaaNorm
namespace Go.Proofs.Ytogdjjleclbgcaa

/-- So many steps lead from a term to another one. -/
inductive Reach : Nat → L → L → Prop
  | refl (t : L) : Reach 0 t t
  | snoc {n : Nat} {t u v : L} (h : Reach n t u) (hs : u.step = some v) : Reach (n + 1) t v

theorem Reach.cons {n : Nat} {t u v : L} (hs : t.step = some u) (h : Reach n u v) : Reach (n + 1) t v := by
  induction h with
  | refl => exact .snoc (.refl t) hs
  | snoc h hs' ih => exact .snoc (ih hs) hs'
theorem Reach.uncons {n : Nat} {t v : L} (h : Reach (n + 1) t v) : ∃ u, t.step = some u ∧ Reach n u v := by
  generalize hm : n + 1 = m at h
  induction h generalizing n with
  | refl => omega
  | @snoc k t u v h hs ih =>
    obtain rfl : n = k := by omega
    cases n with
    | zero => cases h; exact ⟨_, hs, .refl _⟩
    | succ n =>
      obtain ⟨x, hx, hr⟩ := ih rfl
      exact ⟨x, hx, .snoc hr hs⟩
theorem Reach.eq0 {t u : L} (h : Reach 0 t u) : t = u := by cases h; rfl

theorem Reach.path {B N : Nat} {t d : L} (h : L.Path B N t d) (hd : d.step = none) : ∀ {n : Nat} {u : L}, Reach n t u → ∃ m, n + m = N ∧ L.Path B m u d := by
  intro n u hr
  induction hr with
  | refl => exact ⟨N, by omega, h⟩
  | snoc hr hs ih =>
    obtain ⟨m, hm, hp⟩ := ih h
    cases hp with
    | refl h' hc => rw [hd] at hs; cases hs
    | head h' hc hs' hp' =>
      rw [hs'] at hs; cases hs
      exact ⟨_, by omega, hp'⟩
theorem path_left {B N : Nat} {t d : L} (h : L.Path B N t d) : t.depth ≤ B ∧ L.clo 0 t := by cases h <;> exact ⟨by assumption, by assumption⟩

/-- What is known of a start, its normal form, and where so many steps have led. -/
structure Facts (st due u : L) (n : Nat) : Prop where
  path : ∃ N, L.Path 500 N st due
  stop : due.step = none
  reach : Reach n st u
  sizes : ∀ j v, j ≤ n → Reach j st v → v.size ≤ 3000

theorem Facts.begin {st due : L} (h : ∃ N, L.Path 500 N st due) (hd : due.step = none) (hs : st.size ≤ 3000) : Facts st due st 0 :=
  ⟨h, hd, .refl _, fun j v hj hr => by obtain rfl : j = 0 := by omega
                                       rw [← hr.eq0]; exact hs⟩
theorem Reach.det {n : Nat} {t u v : L} (h : Reach n t u) (k : Reach n t v) : u = v := by
  induction h generalizing v with
  | refl => exact k.eq0
  | snoc h hs ih =>
    cases k with
    | snoc k hs' => rw [ih k, hs'] at hs; cases hs; rfl
theorem Facts.next {st due u v : L} {n : Nat} (h : Facts st due u n) (hs : u.step = some v) (hv : v.size ≤ 3000) : Facts st due v (n + 1) :=
  ⟨h.path, h.stop, .snoc h.reach hs, fun j x hj hr => by
    by_cases hjn : j ≤ n
    · exact h.sizes j x hjn hr
    · obtain rfl : j = n + 1 := by omega
      rw [hr.det (.snoc h.reach hs)]; exact hv⟩
theorem Facts.small {st due u : L} {n : Nat} (h : Facts st due u n) {j : Nat} {v : L} (hj : j ≤ n) (hr : Reach j st v) : v.small := by
  obtain ⟨N, hp⟩ := h.path
  obtain ⟨m, -, hm⟩ := hr.path hp h.stop
  exact ⟨(path_left hm).2, (path_left hm).1, by have := h.sizes j v hj hr; omega⟩
theorem Facts.one {st due u : L} {n : Nat} (h : Facts st due u n) : u.small := h.small (Nat.le_refl _) h.reach
theorem Facts.start {st due u : L} {n : Nat} (h : Facts st due u n) : st.small := h.small (Nat.zero_le _) (.refl _)
theorem Facts.due_small {st due u : L} {n : Nat} (h : Facts st due u n) (hu : u = due) : due.small := hu ▸ h.one

theorem fine_of {st : L} {n : Nat} (h : ∀ j v, j ≤ n → Reach j st v → v.small) : fine n st := by
  induction n generalizing st with
  | zero => exact h 0 st (Nat.le_refl _) (.refl _)
  | succ n ih => exact ⟨h 0 st (by omega) (.refl _), fun u hu => ih (fun j v hj hr => h (j + 1) v (by omega) (.cons hu hr))⟩
theorem Facts.fine {st due u : L} {n m : Nat} (h : Facts st due u n) (hm : m ≤ n) : fine m st := fine_of fun j v hj hr => h.small (by omega) hr

theorem norm_stop {n : Nat} {t : L} (h : t.step = none) : norm n t = some t := by unfold norm; rw [h]
theorem norm_zero {t u : L} (h : t.step = some u) : norm 0 t = none := by unfold norm; rw [h]
theorem norm_reach {n : Nat} {t u : L} (h : Reach n t u) (hu : u.step = none) : norm n t = some u := by
  induction n generalizing t with
  | zero => cases h; exact norm_stop hu
  | succ n ih =>
    obtain ⟨x, hx, hr⟩ := h.uncons
    rw [norm_some hx]; exact ih hr
theorem norm_more {n : Nat} {t u v : L} (h : Reach n t u) (hu : u.step = some v) : ∀ m, m ≤ n → norm m t = none := by
  induction n generalizing t with
  | zero => intro m hm; obtain rfl : m = 0 := by omega
            cases h; exact norm_zero hu
  | succ n ih =>
    intro m hm
    obtain ⟨x, hx, hr⟩ := h.uncons
    cases m with
    | zero => exact norm_zero hx
    | succ m => rw [norm_some hx]; exact ih hr m (by omega)
theorem norm_less {n : Nat} {t u : L} (h : Reach n t u) : ∀ m, m < n → norm m t = none := by
  intro m hm
  cases h with
  | refl => omega
  | snoc h hs => exact norm_more h hs m (by omega)

theorem size_pos (t : L) : 1 ≤ t.size := by cases t <;> simp [L.size]
theorem size_put (x : L) (d : Nat) (b : L) : (L.put x d b).size ≤ b.size * x.size := by
  have hp := size_pos x
  induction b generalizing d with
  | free => simp only [L.put, L.size]; omega
  | var => simp only [L.put, L.size]; omega
  | bnd k =>
    simp only [L.put]
    split
    · rw [L.C.size_lift]; simp only [L.size]; omega
    · split <;> simp only [L.size] <;> omega
  | abs b ih => have := ih (d + 1); simp only [L.put, L.size, Nat.add_mul]; omega
  | app f a ih1 ih2 => have := ih1 d; have := ih2 d; simp only [L.put, L.size, Nat.add_mul]; omega
theorem sq_le {a b : Nat} (h : a ≤ b) : a * a ≤ b * b := Nat.mul_le_mul h h
theorem size_step {t v : L} (h : t.step = some v) : v.size ≤ t.size * t.size := by
  induction t generalizing v with
  | abs b ih =>
    simp only [L.step, Option.map_eq_some_iff] at h
    obtain ⟨u, hu, rfl⟩ := h
    have := ih hu
    have e : (b.size + 1) * (b.size + 1) = b.size * b.size + b.size + b.size + 1 := by simp only [Nat.add_mul, Nat.mul_add]; omega
    simp only [L.size, e]; omega
  | app f a ih1 ih2 =>
    have p1 := size_pos f
    have p2 := size_pos a
    have hf : f.size ≤ f.size * f.size := Nat.le_mul_of_pos_left _ p1
    have ha : a.size ≤ a.size * a.size := Nat.le_mul_of_pos_left _ p2
    have e : (f.size + a.size + 1) * (f.size + a.size + 1) = f.size * f.size + a.size * a.size + 2 * (f.size * a.size) + 2 * f.size + 2 * a.size + 1 := by
      have := Nat.mul_comm a.size f.size
      simp only [Nat.add_mul, Nat.mul_add]; omega
    simp only [L.step] at h
    split at h
    · rename_i u hb
      cases h
      cases f with
      | abs b =>
        simp only [L.beta, Option.some.injEq] at hb
        subst hb
        have := size_put a 0 b
        have : b.size * a.size ≤ b.size.succ * a.size := Nat.mul_le_mul_right _ (by omega)
        simp only [L.size] at e ⊢
        simp only [Nat.succ_eq_add_one] at this
        omega
      | _ => simp [L.beta] at hb
    · split at h
      · rename_i u hu
        cases h
        have := ih1 hu
        simp only [L.size]; omega
      · simp only [Option.map_eq_some_iff] at h
        obtain ⟨u, hu, rfl⟩ := h
        have := ih2 hu
        simp only [L.size]; omega
  | _ => simp [L.step] at h
theorem Facts.next_small {st due u v : L} {n : Nat} (h : Facts st due u n) (hs : u.step = some v) : v.depth ≤ 500 ∧ L.clo 0 v ∧ v.size < 100000000 := by
  obtain ⟨N, hp⟩ := h.path
  obtain ⟨m, -, hm⟩ := (Reach.snoc h.reach hs).path hp h.stop
  have h1 := size_step hs
  have h2 := sq_le (h.sizes n u (Nat.le_refl _) h.reach)
  exact ⟨(path_left hm).1, (path_left hm).2, by omega⟩

theorem Facts.at_due {st due u : L} {n : Nat} (h : Facts st due u n) (hu : u.step = none) : u = due := by
  obtain ⟨N, hp⟩ := h.path
  obtain ⟨m, -, hm⟩ := h.reach.path hp h.stop
  cases hm with
  | refl => rfl
  | head _ _ hs _ => rw [hu] at hs; cases hs
end Go.Proofs.Ytogdjjleclbgcaa
