/- A statement whose order is open: two operations that may come now. -/
import Derived.Test.YtogdjjleclbgcaaRegs
namespace Go.Proofs.Ytogdjjleclbgcaa
section
variable {P : Program} {ops : Array Oper} {Q : Exit → Act → World → Prop} {md : Region.Mode} {S : World → Prop}

theorem G_two {fuel : Nat} {listed : Array Bool} {a : Act} {w : World} {o p : Oper} (i j : Nat) (ho : ops[i]? = some o) (hp : ops[j]? = some p) (hr : (Region.ready md ops listed == [i, j]) = true)
    (h : ∀ K : Act → World → Prop, (∀ a w, (S w ∧ anyG P md ops Q S fuel (listed.setIfInBounds i true) a w) → K a w) → if Region.wanted o (yielded ops a.tmps) = true then Oper.wp P o a w K Q else K (a.put o.dst undef) w)
    (h' : ∀ K : Act → World → Prop, (∀ a w, (S w ∧ anyG P md ops Q S fuel (listed.setIfInBounds j true) a w) → K a w) → if Region.wanted p (yielded ops a.tmps) = true then Oper.wp P p a w K Q else K (a.put p.dst undef) w) :
    anyG P md ops Q S (fuel + 1) listed a w := by
  have hr' : Region.ready md ops listed = [i, j] := by simpa using hr
  refine ⟨fun h0 => (by rw [hr'] at h0; cases h0), fun k hk => ?_⟩
  rw [hr'] at hk
  simp only [List.mem_cons, List.not_mem_nil, or_false] at hk
  rcases hk with rfl | rfl
  · exact wpOp_step ho (fun K hK => h K (fun a w hh => hK a w ⟨.inr hh.1, hh.2⟩))
  · exact wpOp_step hp (fun K hK => h' K (fun a w hh => hK a w ⟨.inr hh.1, hh.2⟩))
end
end Go.Proofs.Ytogdjjleclbgcaa
