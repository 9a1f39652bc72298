/- A statement whose order is open: what only reads is taken first, and what is left comes in one order. -/
import Derived.OrdersHeld
import Derived.RegionTactic
import Derived.Laws.AppendOwn
namespace Go.Proofs.Ytogdjjleclbgcaa

section
variable {P : Program} {ops : Array Oper} {Q : Exit → Act → World → Prop} {md : Region.Mode} {S : World → Prop}

/-- Whatever order is picked: as long as something is left to do, S holds. -/
def anyG (P : Program) (md : Region.Mode) (ops : Array Oper) (Q : Exit → Act → World → Prop) (S : World → Prop) : Nat → Array Bool → Act → World → Prop
  | 0, listed, a, w => Region.ready md ops listed = [] ∧ Q .normal a w
  | fuel + 1, listed, a, w => (Region.ready md ops listed = [] → Q .normal a w) ∧
    ∀ i ∈ Region.ready md ops listed, wpOp P ops Q i (fun a' w' => (Region.ready md ops (listed.setIfInBounds i true) = [] ∨ S w') ∧ anyG P md ops Q S fuel (listed.setIfInBounds i true) a' w') a w

theorem any_of_G : ∀ (fuel : Nat) (listed : Array Bool) (a : Act) (w : World), anyG P md ops Q S fuel listed a w → wpAny P md ops Q fuel listed a w
  | 0, _, _, _, h => h
  | fuel + 1, _, _, _, h => ⟨h.1, fun i hi => wpOp_mono (fun a' w' h' => any_of_G fuel _ a' w' h'.2) (h.2 i hi)⟩

theorem G_begin {id : Nat} {a : Act} {w : World} (S : World → Prop) (hm : P.follows .mixedOrders = true)
    (h : anyG P .any ops Q S ops.size (Array.replicate ops.size false) a w.drew) : (Code.region id ops true).wp P Q a w :=
  wp_region_any hm (any_of_G _ _ _ _ h)

/-- Each operation waits for earlier ones alone. -/
def upward (md : Region.Mode) (ops : Array Oper) : Bool := (List.range ops.size).all fun j => match ops[j]? with
  | some o => o.after.all fun e => !Region.binds md e || decide (e.on < j)
  | none => true
theorem upward_spec (h : upward md ops = true) {j : Nat} {o : Oper} (ho : ops[j]? = some o) : ∀ e ∈ o.after, Region.binds md e = true → e.on < j := by
  have hj : j < ops.size := (Array.getElem?_eq_some_iff.1 ho).1
  have h1 := List.all_eq_true.1 h j (List.mem_range.2 hj)
  simp only [ho] at h1
  intro e he hb
  have := Array.all_eq_true_iff_forall_mem.1 h1 e he
  simpa [hb] using this

theorem ready_ne (h : upward md ops = true) {listed : Array Bool} (hs : listed.size = ops.size) : ∀ (k : Nat), k < ops.size → listed.getD k true = false → Region.ready md ops listed ≠ [] := by
  intro k
  induction k using Nat.strongRecOn with
  | _ k ih =>
    intro hk hun hnil
    obtain ⟨o, ho⟩ : ∃ o, ops[k]? = some o := ⟨ops[k], by simp [hk]⟩
    have : k ∈ Region.ready md ops listed := by
      rw [mem_ready]
      refine ⟨hun, o, ho, fun e he hb => ?_⟩
      have hlt := upward_spec h ho e he hb
      cases hl : listed.getD e.on false with
      | true => rfl
      | false =>
        have hb' : e.on < listed.size := by rw [hs]; omega
        have hun' : listed.getD e.on true = false := by simp [hb'] at hl ⊢; exact hl
        exact (ih e.on hlt (by omega) hun' hnil).elim
    rw [hnil] at this
    cases this

theorem G_first (hup : upward md ops = true) {i : Nat} {oi : Oper} {v : Value} (hi : ops[i]? = some oi) (hsel : ∀ (j : Nat) (o : Oper) cs b, ops[j]? = some o → o.op ≠ .select cs b)
    (hQ : ∀ c a w, Q (.panic c) (a.put oi.dst v) w → Q (.panic c) a w) {k : Nat} {ok : Oper} (hk : ops[k]? = some ok) (hki : ∃ e ∈ ok.after, Region.binds md e = true ∧ e.on = i) :
    ∀ (fuel : Nat) (listed : Array Bool) (a : Act) (w : World), listed.size = ops.size → listed.getD k true = false →
      (∀ j oj, ops[j]? = some oj → j ≠ i → listed.getD j true = false → (∀ e ∈ oj.after, Region.binds md e = true → e.on ≠ i) → oi.apart ops oj = true) →
      i ∈ Region.ready md ops listed → YieldsIf P ops S oi v a → S w →
      anyG P md ops Q S fuel (listed.setIfInBounds i true) (a.put oi.dst v) w → anyG P md ops Q S (fuel + 1) listed a w := by
  intro fuel
  have hklt : k < ops.size := (Array.getElem?_eq_some_iff.1 hk).1
  have hne : i ≠ k := by
    obtain ⟨e, he, hb, hon⟩ := hki
    have := upward_spec hup hk e he hb
    omega
  induction fuel with
  | zero =>
    intro listed a w _ _ _ hr hy hS H
    refine ⟨fun h => (by rw [h] at hr; cases hr), fun j hj => ?_⟩
    by_cases hji : j = i
    · subst hji
      exact hy.wpOp hi hS ⟨.inr hS, H⟩
    · have := ready_mono hj hji
      rw [H.1] at this
      cases this
  | succ fuel ih =>
    intro listed a w hsz hku hfree hr hy hS H
    refine ⟨fun h => (by rw [h] at hr; cases hr), fun j hj => ?_⟩
    by_cases hji : j = i
    · subst hji
      exact hy.wpOp hi hS ⟨.inr hS, H⟩
    · have h1 := H.2 j (ready_mono hj hji)
      obtain ⟨hjun, oj, hoj, hall⟩ := mem_ready.1 hj
      have hun := (mem_ready.1 hr).1
      have hnot : ∀ e ∈ oj.after, Region.binds md e = true → e.on ≠ i := fun e he hb heq => by
        have h2 := hall e he hb
        rw [heq] at h2
        rcases Nat.lt_or_ge i listed.size with h' | h'
        · simp [h'] at hun h2
          rw [hun] at h2
          cases h2
        · simp [Array.getElem?_eq_none h'] at h2
      have hjk : j ≠ k := by
        rintro rfl
        obtain ⟨e, he, hb, hon⟩ := hki
        have : oj = ok := Option.some.inj (hoj.symm.trans hk)
        subst this
        exact hnot e he hb hon
      have h2 := wpOp_putIf hoj (hfree j oj hoj hji hjun hnot) (fun cs b => hsel i oi cs b hi) (fun cs b => hsel j oj cs b hoj) hQ hy h1
      have hfree' : ∀ k ok, ops[k]? = some ok → k ≠ i → (listed.setIfInBounds j true).getD k true = false →
          (∀ e ∈ ok.after, Region.binds md e = true → e.on ≠ i) → oi.apart ops ok = true := fun k ok hk hki hun' hno => by
        refine hfree k ok hk hki ?_ hno
        by_cases hjk : j = k
        · subst hjk; exact hjun
        · rw [getD_set_ne true hjk] at hun'; exact hun'
      have hri : i ∈ Region.ready md ops (listed.setIfInBounds j true) := ready_mono hr (Ne.symm hji)
      refine wpOp_mono (fun a' w' h3 => ?_) h2
      obtain ⟨hy3, h4, h5⟩ := h3
      have hS' : S w' := h4.resolve_left (ready_ne hup (by simp [hsz]) k hklt (by rw [getD_set_ne true hjk, getD_set_ne true hne]; exact hku))
      rw [Array.setIfInBounds_comm _ _ (Ne.symm hji)] at h5
      exact ⟨.inr hS', ih (listed.setIfInBounds j true) a' w' (by simp [hsz]) (by rw [getD_set_ne true hjk]; exact hku) hfree' hri hy3 hS' h5⟩

/-- A later operation waits for operation i. -/
def waits (md : Region.Mode) (ops : Array Oper) (listed : Array Bool) (i k : Nat) : Bool :=
  decide (listed.size = ops.size) && !(listed.getD k true) && match ops[k]? with
  | some o => o.after.any fun e => Region.binds md e && e.on == i
  | none => false

/-- Take operation i first. -/
theorem G_take {fuel : Nat} {listed : Array Bool} {a : Act} {w : World} {oi : Oper} {v : Value} (i k : Nat) (hi : ops[i]? = some oi)
    (hb : (upward md ops && Region.noSelect ops && Region.free md ops listed i && (Region.ready md ops listed).contains i && waits md ops listed i k) = true)
    (hQ : ∀ c a w, Q (.panic c) (a.put oi.dst v) w → Q (.panic c) a w) (hS : S w) (hy : YieldsIf P ops S oi v a)
    (h : anyG P md ops Q S fuel (listed.setIfInBounds i true) (a.put oi.dst v) w) : anyG P md ops Q S (fuel + 1) listed a w := by
  simp only [Bool.and_eq_true] at hb
  obtain ⟨⟨⟨⟨hup, hs⟩, hf⟩, hr⟩, hw⟩ := hb
  unfold waits at hw
  simp only [Bool.and_eq_true, decide_eq_true_eq, Bool.not_eq_true'] at hw
  obtain ⟨⟨hsz, hku⟩, hw⟩ := hw
  cases hk : ops[k]? with
  | none => rw [hk] at hw; cases hw
  | some ok =>
    rw [hk] at hw
    obtain ⟨e, he, hbe⟩ := Array.any_eq_true'.1 hw
    simp only [Bool.and_eq_true, beq_iff_eq] at hbe
    exact G_first hup hi (Region.noSelect_spec hs) hQ hk ⟨e, he, hbe.1, hbe.2⟩ fuel listed a w hsz hku (Region.free_spec hi hf) (by simpa using hr) hy hS h

/-- One operation alone may come now. -/
theorem G_only {fuel : Nat} {listed : Array Bool} {a : Act} {w : World} {o : Oper} (i : Nat) (ho : ops[i]? = some o) (hr : (Region.ready md ops listed == [i]) = true)
    (h : ∀ K : Act → World → Prop, (∀ a w, (S w ∧ anyG P md ops Q S fuel (listed.setIfInBounds i true) a w) → K a w) → if Region.wanted o (yielded ops a.tmps) = true then Oper.wp P o a w K Q else K (a.put o.dst undef) w) :
    anyG P md ops Q S (fuel + 1) listed a w := by
  have hr' : Region.ready md ops listed = [i] := by simpa using hr
  refine ⟨fun h0 => (by rw [hr'] at h0; cases h0), fun j hj => ?_⟩
  rw [hr'] at hj
  obtain rfl : j = i := by simpa using hj
  exact wpOp_step ho (fun K hK => h K (fun a w hh => hK a w ⟨.inr hh.1, hh.2⟩))

/-- The last operation. -/
theorem G_last {fuel : Nat} {listed : Array Bool} {a : Act} {w : World} {o : Oper} (i : Nat) (ho : ops[i]? = some o) (hr : (Region.ready md ops listed == [i]) = true)
    (hl : (Region.ready md ops (listed.setIfInBounds i true)).isEmpty = true)
    (h : ∀ K : Act → World → Prop, (∀ a w, Q .normal a w → K a w) → if Region.wanted o (yielded ops a.tmps) = true then Oper.wp P o a w K Q else K (a.put o.dst undef) w) :
    anyG P md ops Q S (fuel + 1) listed a w := by
  have hr' : Region.ready md ops listed = [i] := by simpa using hr
  have hl' : Region.ready md ops (listed.setIfInBounds i true) = [] := by simpa using hl
  refine ⟨fun h0 => (by rw [hr'] at h0; cases h0), fun j hj => ?_⟩
  rw [hr'] at hj
  obtain rfl : j = i := by simpa using hj
  refine wpOp_step ho (fun K hK => h K (fun a w hq => hK a w ⟨.inl hl', ?_⟩))
  cases fuel with
  | zero => exact ⟨hl', hq⟩
  | succ fuel => exact ⟨fun _ => hq, by rw [hl']; simp⟩
end
end Go.Proofs.Ytogdjjleclbgcaa
