namespace Go.Proofs.Ytogdjjleclbgcaa

inductive L where
  | free | var | bnd (n : Nat) | abs (b : L) | app (f a : L)
deriving Repr, DecidableEq

namespace L
def lift (n : Nat) : Nat → L → L
  | _, free => free
  | _, var => var
  | d, bnd k => if k < d then bnd k else bnd (k + n)
  | d, abs b => abs (lift n (d + 1) b)
  | d, app f a => app (lift n d f) (lift n d a)

def put (x : L) : Nat → L → L
  | _, free => free
  | _, var => var
  | d, bnd k => if k = d then lift d 0 x else if d < k then bnd (k - 1) else bnd k
  | d, abs b => abs (put x (d + 1) b)
  | d, app f a => app (put x d f) (put x d a)

def beta : L → Option L
  | app (abs b) a => some (put a 0 b)
  | _ => none

def step : L → Option L
  | app f a => match beta (app f a) with
    | some t => some t
    | none => match step f with
      | some f' => some (app f' a)
      | none => (step a).map (app f)
  | abs b => (step b).map abs
  | _ => none

def size : L → Nat
  | abs b => size b + 1
  | app f a => size f + size a + 1
  | _ => 1

def depth : L → Nat
  | abs b => depth b + 1
  | app f a => max (depth f) (depth a) + 1
  | _ => 1

def clo : Nat → L → Prop
  | _, free => True
  | _, var => True
  | d, bnd k => k < d
  | d, abs b => clo (d + 1) b
  | d, app f a => clo d f ∧ clo d a

theorem lift_clo {n d : Nat} {t : L} (h : clo d t) : lift n d t = t := by
  induction t generalizing d with
  | bnd k => simp only [clo] at h; simp [lift, h]
  | abs b ih => simp only [clo] at h; simp [lift, ih h]
  | app f a ih1 ih2 => simp only [clo] at h; simp [lift, ih1 h.1, ih2 h.2]
  | _ => rfl

theorem clo_mono {d e : Nat} {t : L} (h : clo d t) (hd : d ≤ e) : clo e t := by
  induction t generalizing d e with
  | bnd k => simp only [clo] at h ⊢; omega
  | abs b ih => simp only [clo] at h ⊢; exact ih h (by omega)
  | app f a ih1 ih2 => simp only [clo] at h ⊢; exact ⟨ih1 h.1 hd, ih2 h.2 hd⟩
  | _ => simp [clo]

theorem lift0 {n d : Nat} {t : L} (h : clo 0 t) : lift n d t = t := lift_clo (clo_mono h (by omega))

theorem put_clo {x : L} {d : Nat} {t : L} (h : clo d t) : put x d t = t := by
  induction t generalizing d with
  | bnd k => simp only [clo] at h; simp only [put]; rw [if_neg (by omega), if_neg (by omega)]
  | abs b ih => simp only [clo] at h; simp [put, ih h]
  | app f a ih1 ih2 => simp only [clo] at h; simp [put, ih1 h.1, ih2 h.2]
  | _ => rfl

theorem put0 {x : L} {d : Nat} {t : L} (h : clo 0 t) : put x d t = t := put_clo (clo_mono h (by omega))

theorem clo_put {x : L} {d : Nat} {t : L} (hx : clo 0 x) (h : clo (d + 1) t) : clo d (put x d t) := by
  induction t generalizing d with
  | bnd k =>
    simp only [clo] at h; simp only [put]
    split
    · rw [lift0 hx]; exact clo_mono hx (by omega)
    · rw [if_neg (by omega)]; simp only [clo]; omega
  | abs b ih => simp only [clo] at h; simp only [put, clo]; exact ih h
  | app f a ih1 ih2 => simp only [clo] at h; exact ⟨ih1 h.1, ih2 h.2⟩
  | _ => simp [put, clo]

theorem depth_pos (t : L) : 1 ≤ depth t := by cases t <;> simp [depth]

theorem depth_put {x : L} {d : Nat} {t : L} (hx : clo 0 x) : depth (put x d t) + 1 ≤ depth t + depth x := by
  have hp := depth_pos x
  induction t generalizing d with
  | bnd k =>
    simp only [put]
    split
    · rw [lift0 hx]; simp [depth]; omega
    · split <;> simp [depth] <;> omega
  | abs b ih => have := @ih (d + 1); simp only [put, depth]; omega
  | app f a ih1 ih2 => have := @ih1 d; have := @ih2 d; simp only [put, depth]; omega
  | _ => simp [put, depth]; omega

/-- A step at the head. -/
def whs : L → Option L
  | app f a => match beta (app f a) with
    | some t => some t
    | none => (whs f).map (app · a)
  | _ => none

theorem beta_app {f a : L} (h : ∀ b, f ≠ abs b) : beta (app f a) = none := by
  cases f <;> first | rfl | exact absurd rfl (h _)

theorem step_of_whs {t u : L} (h : whs t = some u) : step t = some u := by
  induction t generalizing u with
  | app f a ih1 ih2 =>
    simp only [whs] at h
    simp only [step]
    split at h
    · exact h
    · simp only [Option.map_eq_some_iff] at h
      obtain ⟨f', hf, rfl⟩ := h
      simp only [ih1 hf]
  | _ => simp [whs] at h

theorem whs_app {f f' a : L} (h : whs f = some f') : whs (app f a) = some (app f' a) := by
  simp only [whs]
  rw [beta_app (by rintro b rfl; simp [whs] at h), h]
  rfl

theorem whs_beta {b a : L} : whs (app (abs b) a) = some (put a 0 b) := rfl

theorem whs_clo {t u : L} (hc : clo 0 t) (h : whs t = some u) : clo 0 u := by
  induction t generalizing u with
  | app f a ih1 ih2 =>
    simp only [clo] at hc
    cases f with
    | abs b => simp only [whs, beta, Option.some.injEq] at h; subst h; exact clo_put hc.2 hc.1
    | app g c =>
      simp only [whs] at h ih1
      simp only [beta_app (f := app g c) (a := a) (by simp), Option.map_eq_some_iff] at h
      obtain ⟨f', hf, rfl⟩ := h
      exact ⟨ih1 hc.1 hf, hc.2⟩
    | _ => simp [whs, beta] at h
  | _ => simp [whs] at h

/-- From t the head's steps lead to u, and no term on the way is deeper than B. -/
inductive Run (B : Nat) : L → L → Prop
  | refl {t : L} (h : depth t ≤ B) : Run B t t
  | head {t t' u : L} (h : depth t ≤ B) (hs : whs t = some t') (r : Run B t' u) : Run B t u

theorem Run.trans {B : Nat} {t u v : L} (h : Run B t u) (k : Run B u v) : Run B t v := by
  induction h with
  | refl h => exact k
  | head h hs r ih => exact .head h hs (ih k)

theorem Run.mono {B B' : Nat} {t u : L} (h : Run B t u) (hB : B ≤ B') : Run B' t u := by
  induction h with
  | refl h => exact .refl (by omega)
  | head h hs r ih => exact .head (by omega) hs ih

theorem Run.left {B : Nat} {t u : L} (h : Run B t u) : depth t ≤ B := by cases h <;> assumption
theorem Run.right {B : Nat} {t u : L} (h : Run B t u) : depth u ≤ B := by induction h <;> assumption

theorem Run.closed {B : Nat} {t u : L} (h : Run B t u) (hc : clo 0 t) : clo 0 u := by
  induction h with
  | refl h => exact hc
  | head h hs r ih => exact ih (whs_clo hc hs)

theorem Run.app {B : Nat} {t u a : L} (h : Run B t u) (ha : depth a ≤ B) : Run (B + 1) (app t a) (app u a) := by
  induction h with
  | refl h => exact .refl (by simp only [depth]; omega)
  | head h hs r ih => exact .head (by simp only [depth]; omega) (whs_app hs) ih

/-- W behaves like f applied n times to x. -/
inductive Iter (B : Nat) (f x : L) : Nat → L → Prop
  | zero {w : L} (h : Run B w x) : Iter B f x 0 w
  | succ {n : Nat} {w w' : L} (h : Run B w (app f w')) (k : Iter B f x n w') : Iter B f x (n + 1) w

theorem Iter.mono {B B' : Nat} {f x w : L} {n : Nat} (h : Iter B f x n w) (hB : B ≤ B') : Iter B' f x n w := by
  induction h with
  | zero h => exact .zero (h.mono hB)
  | succ h k ih => exact .succ (h.mono hB) ih

theorem Iter.run {B : Nat} {f x w v : L} {n : Nat} (r : Run B v w) (h : Iter B f x n w) : Iter B f x n v := by
  cases h with
  | zero h => exact .zero (r.trans h)
  | succ h k => exact .succ (r.trans h) k

theorem Iter.add {B : Nat} {f x y w : L} {m n : Nat} (h : Iter B f y m w) (k : Iter B f x n y) : Iter B f x (m + n) w := by
  induction h with
  | zero h => rw [Nat.zero_add]; exact k.run h
  | succ h _ ih => rw [Nat.add_right_comm]; exact .succ h ih

theorem Iter.mul {B B' : Nat} {f g x w : L} {n m : Nat} (hB : B ≤ B') (h : Iter B g x n w) (hw : clo 0 w)
    (k : ∀ v, clo 0 v → depth v ≤ B → Iter B' f v m (app g v)) : Iter B' f x (n * m) w := by
  induction h with
  | zero h => rw [Nat.zero_mul]; exact .zero (h.mono hB)
  | @succ n w w' h h' ih =>
    have hc := (h.closed hw).2
    have hd := h.right
    simp only [depth] at hd
    rw [Nat.succ_mul, Nat.add_comm]
    exact ((k w' hc (by omega)).run (h.mono hB)).add (ih hc)


def iter (f : L) : Nat → L → L
  | 0, x => x
  | n + 1, x => app f (iter f n x)

def num (n : Nat) : L := abs (abs (iter (bnd 1) n (bnd 0)))
def absN : Nat → L → L
  | 0, b => b
  | n + 1, b => absN n (abs b)
def sumT : L := absN 4 (app (app (bnd 3) (bnd 1)) (app (app (bnd 2) (bnd 1)) (bnd 0)))
def mulT : L := absN 3 (app (bnd 2) (app (bnd 1) (bnd 0)))
def sucT : L := absN 3 (app (bnd 1) (app (app (bnd 2) (bnd 1)) (bnd 0)))

/-- How a term is built. -/
inductive C where
  | num (n : Nat) | add (a b : C) | mul (a b : C) | suc (a : C) | cho (a b : C)

namespace C
def val : C → Nat
  | num n => n
  | add a b => val a + val b
  | mul a b => val a * val b
  | suc a => val a + 1
  | cho _ b => val b
def tm : C → L
  | num n => L.num n
  | add a b => app (app sumT (tm a)) (tm b)
  | mul a b => app (app mulT (tm a)) (tm b)
  | suc a => app sucT (tm a)
  | cho a b => app (app (tm a) (abs (lift 1 0 (tm b)))) (L.num 0)
def good : C → Prop
  | num n => n ≤ 5
  | add a b => good a ∧ good b ∧ val a + val b ≤ 40
  | mul a b => good a ∧ good b ∧ val a * val b ≤ 40
  | suc a => good a ∧ val a < 40
  | cho a b => good a ∧ good b ∧ 0 < val a
def high : C → Nat
  | num _ => 0
  | add a b => max (high a) (high b) + 1
  | mul a b => max (high a) (high b) + 1
  | suc a => high a + 1
  | cho a b => max (high a) (high b) + 1
def cost : C → Nat
  | num n => n + 5
  | add a b => cost a + cost b + depth (tm a) + depth (tm b) + 12
  | mul a b => cost a + cost b + depth (tm a) + depth (tm b) + 12
  | suc a => cost a + depth (tm a) + 12
  | cho a b => cost a + cost b + depth (tm a) + depth (tm b) + 12

theorem clo_iter {d n : Nat} {f x : L} (hf : L.clo d f) (hx : L.clo d x) : L.clo d (iter f n x) := by
  induction n with
  | zero => exact hx
  | succ n ih => exact ⟨hf, ih⟩
theorem clo_num (n : Nat) : L.clo 0 (L.num n) := by
  simp only [L.num, L.clo]; exact clo_iter (by simp [L.clo]) (by simp [L.clo])
theorem clo_tm (c : C) : L.clo 0 (tm c) := by
  induction c with
  | num n => exact clo_num n
  | add a b iha ihb => exact ⟨⟨by simp [sumT, absN, L.clo], iha⟩, ihb⟩
  | mul a b iha ihb => exact ⟨⟨by simp [mulT, absN, L.clo], iha⟩, ihb⟩
  | suc a iha => exact ⟨by simp [sucT, absN, L.clo], iha⟩
  | cho a b iha ihb => exact ⟨⟨iha, by simp only [L.clo]; rw [lift0 ihb]; exact clo_mono ihb (by omega)⟩, clo_num 0⟩

theorem depth_iter (f x : L) (n : Nat) : depth (iter f n x) ≤ max (depth f) (depth x) + n := by
  induction n with
  | zero => simp only [iter]; omega
  | succ n ih => simp only [iter, depth]; omega
theorem put_iter (y f x : L) (d n : Nat) : put y d (iter f n x) = iter (put y d f) n (put y d x) := by
  induction n with
  | zero => rfl
  | succ n ih => simp only [iter, put, ih]
theorem depth_num (n : Nat) : depth (L.num n) ≤ n + 3 := by
  have := depth_iter (bnd 1) (bnd 0) n
  simp only [depth] at this
  simp only [L.num, depth]; omega

theorem run_iter {B n : Nat} {f x : L} (h : depth (iter f n x) ≤ B) : Iter B f x n (iter f n x) := by
  induction n with
  | zero => exact .zero (.refl h)
  | succ n ih => exact .succ (.refl h) (ih (by simp only [iter, depth] at h; omega))

theorem iter_tm (c : C) (hg : good c) : ∀ (D : Nat) (f x : L), L.clo 0 f → L.clo 0 x → depth f ≤ D → depth x ≤ D → Iter (D + cost c) f x (val c) (app (app (tm c) f) x) := by
  induction c with
  | num n =>
    intro D f x hf hx df dx
    have d1 := depth_num n
    have pf := depth_pos f
    have d2 := depth_iter f (bnd 0) n
    have d3 := depth_iter f x n
    simp only [depth] at d2
    have e1 : put f 0 (abs (iter (bnd 1) n (bnd 0))) = abs (iter f n (bnd 0)) := by
      simp only [put, put_iter]; simp [lift0 hf]
    have e2 : put x 0 (iter f n (bnd 0)) = iter f n x := by
      rw [put_iter, put0 hf]; simp [put, lift0 hx]
    refine Iter.run (v := app (app (tm (num n)) f) x) (w := iter f n x) ?_ (run_iter (n := n) (by simp only [cost]; omega))
    refine .head (t' := app (abs (iter f n (bnd 0))) x) ?_ ?_ (.head (t' := iter f n x) ?_ ?_ (.refl ?_))
    · simp only [tm, depth, cost]; omega
    · exact whs_app (by rw [← e1]; rfl)
    · simp only [depth, cost]; omega
    · rw [whs_beta, e2]
    · simp only [cost]; omega
  | add a b iha ihb =>
    intro D f x hf hx df dx
    have ca := clo_tm a
    have cb := clo_tm b
    have pf := depth_pos f
    have pa := depth_pos (tm a)
    have pb := depth_pos (tm b)
    have h1 := iha hg.1 (D + depth (tm b) + 2) f (app (app (tm b) f) x) hf ⟨⟨cb, hf⟩, hx⟩ (by omega) (by simp only [depth]; omega)
    have h2 := ihb hg.2.1 D f x hf hx df dx
    refine Iter.run ?_ ((h1.mono (B' := D + cost (add a b)) (by simp only [cost]; omega)).add (h2.mono (by simp only [cost]; omega)))
    refine .head (t' := app (app (app (put (tm a) 0 (absN 3 (app (app (bnd 3) (bnd 1)) (app (app (bnd 2) (bnd 1)) (bnd 0))))) (tm b)) f) x) ?_ (whs_app (whs_app (whs_app rfl))) ?_
    · simp only [tm, sumT, absN, depth, cost]; omega
    simp only [absN, put]
    simp [lift0 ca]
    refine .head (t' := app (app (put (tm b) 0 (absN 2 (app (app (tm a) (bnd 1)) (app (app (bnd 2) (bnd 1)) (bnd 0))))) f) x) ?_ (whs_app (whs_app rfl)) ?_
    · simp only [depth, cost]; omega
    simp only [absN, put]
    simp [lift0 cb, put0 ca]
    refine .head (t' := app (put f 0 (absN 1 (app (app (tm a) (bnd 1)) (app (app (tm b) (bnd 1)) (bnd 0))))) x) ?_ (whs_app rfl) ?_
    · simp only [depth, cost]; omega
    simp only [absN, put]
    simp [lift0 hf, put0 ca, put0 cb]
    refine .head (t' := put x 0 (app (app (tm a) f) (app (app (tm b) f) (bnd 0)))) ?_ rfl ?_
    · simp only [depth, cost]; omega
    simp only [put]
    simp [lift0 hx, put0 ca, put0 cb, put0 hf]
    refine .refl ?_
    simp only [depth, cost]; omega
  | mul a b iha ihb =>
    intro D f x hf hx df dx
    have ca := clo_tm a
    have cb := clo_tm b
    have pf := depth_pos f
    have pa := depth_pos (tm a)
    have pb := depth_pos (tm b)
    have h1 := iha hg.1 (D + depth (tm b) + 1) (app (tm b) f) x ⟨cb, hf⟩ hx (by simp only [depth]; omega) (by omega)
    have h2 := h1.mul (B' := D + cost (mul a b)) (f := f) (m := val b) (by simp only [cost]; omega) ⟨⟨ca, cb, hf⟩, hx⟩ (fun v hv dv =>
      (ihb hg.2.1 (D + depth (tm b) + 1 + cost a) f v hf hv (by omega) dv).mono (by simp only [cost]; omega))
    refine Iter.run ?_ h2
    refine .head (t' := app (app (app (put (tm a) 0 (absN 2 (app (bnd 2) (app (bnd 1) (bnd 0))))) (tm b)) f) x) ?_ (whs_app (whs_app (whs_app rfl))) ?_
    · simp only [tm, mulT, absN, depth, cost]; omega
    simp only [absN, put]
    simp [lift0 ca]
    refine .head (t' := app (app (put (tm b) 0 (absN 1 (app (tm a) (app (bnd 1) (bnd 0))))) f) x) ?_ (whs_app (whs_app rfl)) ?_
    · simp only [depth, cost]; omega
    simp only [absN, put]
    simp [lift0 cb, put0 ca]
    refine .head (t' := app (put f 0 (app (tm a) (app (tm b) (bnd 0)))) x) ?_ (whs_app rfl) ?_
    · simp only [depth, cost]; omega
    simp only [put]
    simp [lift0 hf, put0 ca, put0 cb]
    refine .refl ?_
    simp only [depth, cost]; omega
  | suc a iha =>
    intro D f x hf hx df dx
    have ca := clo_tm a
    have pf := depth_pos f
    have pa := depth_pos (tm a)
    have h1 := iha hg.1 D f x hf hx df dx
    refine .succ (w' := app (app (tm a) f) x) ?_ (h1.mono (by simp only [cost]; omega))
    refine .head (t' := app (app (put (tm a) 0 (absN 2 (app (bnd 1) (app (app (bnd 2) (bnd 1)) (bnd 0))))) f) x) ?_ (whs_app (whs_app rfl)) ?_
    · simp only [tm, sucT, absN, depth, cost]; omega
    simp only [absN, put]
    simp [lift0 ca]
    refine .head (t' := app (put f 0 (absN 1 (app (bnd 1) (app (app (tm a) (bnd 1)) (bnd 0))))) x) ?_ (whs_app rfl) ?_
    · simp only [depth, cost]; omega
    simp only [absN, put]
    simp [lift0 hf, put0 ca]
    refine .head (t' := put x 0 (app f (app (app (tm a) f) (bnd 0)))) ?_ rfl ?_
    · simp only [depth, cost]; omega
    simp only [put]
    simp [lift0 hx, put0 ca, put0 hf]
    refine .refl ?_
    simp only [depth, cost]; omega
  | cho a b iha ihb =>
    intro D f x hf hx df dx
    have ca := clo_tm a
    have cb := clo_tm b
    have pf := depth_pos f
    have pa := depth_pos (tm a)
    have pb := depth_pos (tm b)
    have dn := depth_num 0
    have h1 := iha hg.1 (depth (tm b) + 3) (abs (tm b)) (L.num 0) (by simp only [L.clo]; exact clo_mono cb (by omega)) (clo_num 0) (by simp only [depth]; omega) (by omega)
    have h2 := ihb hg.2.1 D f x hf hx df dx
    simp only [tm, val, lift0 cb]
    obtain ⟨n, hn⟩ : ∃ n, val a = n + 1 := ⟨val a - 1, by have := hg.2.2; omega⟩
    rw [hn] at h1
    cases h1 with
    | succ r k =>
      rename_i w'
      have r1 := r.right
      simp only [depth] at r1
      refine Iter.run ?_ (h2.mono (by simp only [cost]; omega))
      refine Run.trans ((((r.mono (B' := D + depth (tm b) + 4 + cost a) (by omega)).app (a := f) (by omega)).app (a := x) (by omega)).mono (by simp only [cost]; omega)) ?_
      refine .head (t' := app (app (put w' 0 (tm b)) f) x) ?_ (whs_app (whs_app rfl)) ?_
      · simp only [depth, cost]; omega
      rw [put0 cb]
      refine .refl ?_
      simp only [depth, cost]; omega

theorem depth_lift (n d : Nat) (t : L) : depth (lift n d t) = depth t := by
  induction t generalizing d with
  | bnd k => simp only [lift]; split <;> rfl
  | abs b ih => simp only [lift, depth, ih]
  | app f a ih1 ih2 => simp only [lift, depth, ih1, ih2]
  | _ => rfl
theorem size_lift (n d : Nat) (t : L) : size (lift n d t) = size t := by
  induction t generalizing d with
  | bnd k => simp only [lift]; split <;> rfl
  | abs b ih => simp only [lift, size, ih]
  | app f a ih1 ih2 => simp only [lift, size, ih1, ih2]
  | _ => rfl
theorem size_iter (f x : L) (n : Nat) : size (iter f n x) = n * (size f + 1) + size x := by
  induction n with
  | zero => simp [iter]
  | succ n ih => simp only [iter, size, ih, Nat.succ_mul]; omega
theorem size_num (n : Nat) : size (L.num n) = 2 * n + 3 := by
  simp only [L.num, size, size_iter]; omega

theorem good_val {c : C} (h : good c) : val c ≤ 40 := by
  induction c with
  | num n => simp only [good] at h; simp only [val]; omega
  | add a b _ _ => exact h.2.2
  | mul a b _ _ => exact h.2.2
  | suc a _ => simp only [good] at h; simp only [val]; omega
  | cho a b _ ihb => exact ihb h.2.1

def dm : Nat → Nat | 0 => 8 | n + 1 => dm n + 10
def cm : Nat → Nat | 0 => 10 | n + 1 => cm n + cm n + dm n + dm n + 12
def zm : Nat → Nat | 0 => 13 | n + 1 => zm n + zm n + 20
theorem dm_mono {m n : Nat} (h : m ≤ n) : dm m ≤ dm n := by
  induction h with
  | refl => exact Nat.le_refl _
  | step _ ih => simp only [dm]; omega
theorem cm_mono {m n : Nat} (h : m ≤ n) : cm m ≤ cm n := by
  induction h with
  | refl => exact Nat.le_refl _
  | step _ ih => simp only [cm]; omega
theorem zm_mono {m n : Nat} (h : m ≤ n) : zm m ≤ zm n := by
  induction h with
  | refl => exact Nat.le_refl _
  | step _ ih => simp only [zm]; omega
theorem dm_low (n : Nat) : 8 ≤ dm n := by cases n <;> simp only [dm] <;> omega

theorem depth_tm {c : C} (h : good c) : depth (tm c) ≤ dm (high c) := by
  induction c with
  | num n => have := depth_num n; simp only [good] at h; simp only [tm, high, dm]; omega
  | add a b iha ihb =>
    have h1 := iha h.1; have h2 := ihb h.2.1
    have h3 := dm_mono (Nat.le_max_left (high a) (high b)); have h4 := dm_mono (Nat.le_max_right (high a) (high b))
    simp only [tm, high, dm, depth, sumT, absN]; omega
  | mul a b iha ihb =>
    have h1 := iha h.1; have h2 := ihb h.2.1
    have h3 := dm_mono (Nat.le_max_left (high a) (high b)); have h4 := dm_mono (Nat.le_max_right (high a) (high b))
    simp only [tm, high, dm, depth, mulT, absN]; omega
  | suc a iha =>
    have h1 := iha h.1; have := dm_low (high a)
    simp only [tm, high, dm, depth, sucT, absN]; omega
  | cho a b iha ihb =>
    have h1 := iha h.1; have h2 := ihb h.2.1
    have h3 := dm_mono (Nat.le_max_left (high a) (high b)); have h4 := dm_mono (Nat.le_max_right (high a) (high b))
    have h5 := depth_num 0
    simp only [tm, high, dm, depth, depth_lift]; omega

theorem size_tm {c : C} (h : good c) : size (tm c) ≤ zm (high c) := by
  induction c with
  | num n => have := size_num n; simp only [good] at h; simp only [tm, high, zm]; omega
  | add a b iha ihb =>
    have h1 := iha h.1; have h2 := ihb h.2.1
    have h3 := zm_mono (Nat.le_max_left (high a) (high b)); have h4 := zm_mono (Nat.le_max_right (high a) (high b))
    simp only [tm, high, zm, size, sumT, absN]; omega
  | mul a b iha ihb =>
    have h1 := iha h.1; have h2 := ihb h.2.1
    have h3 := zm_mono (Nat.le_max_left (high a) (high b)); have h4 := zm_mono (Nat.le_max_right (high a) (high b))
    simp only [tm, high, zm, size, mulT, absN]; omega
  | suc a iha =>
    have h1 := iha h.1
    simp only [tm, high, zm, size, sucT, absN]; omega
  | cho a b iha ihb =>
    have h1 := iha h.1; have h2 := ihb h.2.1
    have h3 := zm_mono (Nat.le_max_left (high a) (high b)); have h4 := zm_mono (Nat.le_max_right (high a) (high b))
    have h5 := size_num 0
    simp only [tm, high, zm, size, size_lift]; omega

theorem cost_le {c : C} (h : good c) : cost c ≤ cm (high c) := by
  induction c with
  | num n => simp only [good] at h; simp only [cost, high, cm]; omega
  | add a b iha ihb =>
    have h1 := iha h.1; have h2 := ihb h.2.1
    have h3 := cm_mono (Nat.le_max_left (high a) (high b)); have h4 := cm_mono (Nat.le_max_right (high a) (high b))
    have h5 := depth_tm h.1; have h6 := depth_tm h.2.1
    have h7 := dm_mono (Nat.le_max_left (high a) (high b)); have h8 := dm_mono (Nat.le_max_right (high a) (high b))
    simp only [cost, high, cm]; omega
  | mul a b iha ihb =>
    have h1 := iha h.1; have h2 := ihb h.2.1
    have h3 := cm_mono (Nat.le_max_left (high a) (high b)); have h4 := cm_mono (Nat.le_max_right (high a) (high b))
    have h5 := depth_tm h.1; have h6 := depth_tm h.2.1
    have h7 := dm_mono (Nat.le_max_left (high a) (high b)); have h8 := dm_mono (Nat.le_max_right (high a) (high b))
    simp only [cost, high, cm]; omega
  | suc a iha =>
    have h1 := iha h.1; have h5 := depth_tm h.1
    simp only [cost, high, cm]; omega
  | cho a b iha ihb =>
    have h1 := iha h.1; have h2 := ihb h.2.1
    have h3 := cm_mono (Nat.le_max_left (high a) (high b)); have h4 := cm_mono (Nat.le_max_right (high a) (high b))
    have h5 := depth_tm h.1; have h6 := depth_tm h.2.1
    have h7 := dm_mono (Nat.le_max_left (high a) (high b)); have h8 := dm_mono (Nat.le_max_right (high a) (high b))
    simp only [cost, high, cm]; omega
end C

/-- The steps from t lead to u, and no term on the way is deeper than B, and each is closed. -/
inductive Path (B : Nat) : Nat → L → L → Prop
  | refl {t : L} (h : depth t ≤ B) (hc : clo 0 t) : Path B 0 t t
  | head {n : Nat} {t t' u : L} (h : depth t ≤ B) (hc : clo 0 t) (hs : step t = some t') (r : Path B n t' u) : Path B (n + 1) t u

theorem Path.trans {B m n : Nat} {t u v : L} (h : Path B m t u) (k : Path B n u v) : Path B (m + n) t v := by
  induction h with
  | refl h => rw [Nat.zero_add]; exact k
  | head h hc hs r ih => rw [Nat.add_right_comm]; exact .head h hc hs (ih k)

/-- As many of f as are asked for around a term. -/
theorem step_iter {t u : L} (h : step t = some u) (i : Nat) : step (iter free i t) = some (iter free i u) := by
  induction i with
  | zero => exact h
  | succ i ih => simp only [iter, step, beta, ih]; rfl
theorem iter_snoc (f x : L) (i : Nat) : iter f i (app f x) = iter f (i + 1) x := by
  induction i with
  | zero => rfl
  | succ i ih => simp only [iter, ih]
theorem depth_iter_free (t : L) (i : Nat) : depth (iter free i t) = depth t + i := by
  have := depth_pos t
  induction i with
  | zero => rfl
  | succ i ih => simp only [iter, depth, ih]; omega

theorem Run.path {B : Nat} {t u : L} (h : Run B t u) (hc : clo 0 t) (i : Nat) : ∃ n, Path (B + i) n (iter free i t) (iter free i u) := by
  induction h with
  | @refl t h => exact ⟨0, .refl (by rw [depth_iter_free]; omega) (C.clo_iter (by simp [clo]) hc)⟩
  | @head t t' u h hs r ih =>
    obtain ⟨n, hn⟩ := ih (whs_clo hc hs)
    exact ⟨n + 1, .head (by rw [depth_iter_free]; omega) (C.clo_iter (by simp [clo]) hc) (step_iter (step_of_whs hs) i) hn⟩

theorem Iter.path {B n : Nat} {w : L} (h : Iter B free var n w) (hc : clo 0 w) : ∀ i, ∃ m, Path (B + i + n) m (iter free i w) (iter free (i + n) var) := by
  induction h with
  | zero h => intro i; obtain ⟨m, hm⟩ := h.path hc i; exact ⟨m, hm⟩
  | @succ n w w' h k ih =>
    intro i
    obtain ⟨m, hm⟩ := h.path hc i
    obtain ⟨m', hm'⟩ := ih (h.closed hc).2 (i + 1)
    rw [iter_snoc] at hm
    have e : i + 1 + n = i + (n + 1) := by omega
    rw [e] at hm'
    have e2 : B + (i + 1) + n = B + i + (n + 1) := by omega
    rw [e2] at hm'
    have mono : ∀ {B B' m : Nat} {t u : L}, Path B m t u → B ≤ B' → Path B' m t u := by
      intro B B' m t u h hB
      induction h with
      | refl h hc => exact .refl (by omega) hc
      | head h hc hs r ih => exact .head (by omega) hc hs ih
    exact ⟨m + m', (mono hm (by omega)).trans hm'⟩

/-- A redex around a term, whose variable does not occur. -/
def wrap : Nat → L → L
  | 0, t => t
  | n + 1, t => app (abs (lift 1 0 (wrap n t))) var
theorem clo_wrap {t : L} (h : clo 0 t) (n : Nat) : clo 0 (wrap n t) := by
  induction n with
  | zero => exact h
  | succ n ih => simp only [wrap, clo, and_true]; rw [lift0 ih]; exact clo_mono ih (by omega)
theorem depth_wrap (t : L) (n : Nat) : depth (wrap n t) = depth t + 2 * n := by
  have := depth_pos t
  induction n with
  | zero => rfl
  | succ n ih => simp only [wrap, depth, C.depth_lift, ih]; omega
theorem size_wrap (t : L) (n : Nat) : size (wrap n t) = size t + 3 * n := by
  induction n with
  | zero => rfl
  | succ n ih => simp only [wrap, size, C.size_lift, ih]; omega

def start (c : C) (k : Nat) : L := wrap k (app (app (C.tm c) free) var)
def due (c : C) : L := iter free (C.val c) var

theorem clo_start (c : C) (k : Nat) : clo 0 (start c k) :=
  clo_wrap (t := app (app (C.tm c) free) var) ⟨⟨C.clo_tm c, by simp [clo]⟩, by simp [clo]⟩ k

/-- From the start the steps lead to the term that is due, and nothing on the way is too deep. -/
theorem path_start {c : C} (hg : C.good c) (hh : C.high c ≤ 3) {k : Nat} (hk : k ≤ 3) : ∃ n, Path 500 n (start c k) (due c) := by
  have hcost : C.cost c ≤ 356 := Nat.le_trans (C.cost_le hg) (Nat.le_trans (C.cm_mono hh) (by decide))
  have hdep : depth (C.tm c) ≤ 38 := Nat.le_trans (C.depth_tm hg) (Nat.le_trans (C.dm_mono hh) (by decide))
  have hval := C.good_val hg
  have mono : ∀ {B B' m : Nat} {t u : L}, Path B m t u → B ≤ B' → Path B' m t u := by
    intro B B' m t u h hB
    induction h with
    | refl h hc => exact .refl (by omega) hc
    | head h hc hs r ih => exact .head (by omega) hc hs ih
  induction k with
  | zero =>
    obtain ⟨m, hm⟩ := (C.iter_tm c hg 1 free var (by simp [clo]) (by simp [clo]) (by simp [depth]) (by simp [depth])).path (show clo 0 (app (app (C.tm c) free) var) from ⟨⟨C.clo_tm c, by simp [clo]⟩, by simp [clo]⟩) 0
    simp only [Nat.zero_add] at hm
    exact ⟨m, mono hm (by omega)⟩
  | succ k ih =>
    obtain ⟨n, hn⟩ := ih (by omega)
    refine ⟨n + 1, .head ?_ (clo_start c (k + 1)) ?_ hn⟩
    · simp only [start, depth_wrap, depth]; omega
    · show step (app (abs (lift 1 0 (start c k))) var) = some (start c k)
      rw [lift0 (clo_start c k)]
      simp only [step, beta, put0 (clo_start c k)]

theorem size_start {c : C} (hg : C.good c) (hh : C.high c ≤ 3) {k : Nat} (hk : k ≤ 3) : size (start c k) ≤ 300 := by
  have h1 : size (C.tm c) ≤ 244 := Nat.le_trans (C.size_tm hg) (Nat.le_trans (C.zm_mono hh) (by decide))
  simp only [start, size_wrap, size]; omega

theorem step_due (c : C) : step (due c) = none := by
  unfold due
  generalize C.val c = n
  induction n with
  | zero => rfl
  | succ n ih => simp only [iter, step, beta, ih]; rfl

end L
end Go.Proofs.Ytogdjjleclbgcaa
