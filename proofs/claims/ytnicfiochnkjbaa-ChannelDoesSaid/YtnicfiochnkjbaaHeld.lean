/- Laws for carrying a drawn region by hand, operation by operation. No statement of the program is proved here. -/
import Derived.Test.YtnicfiochnkjbaaBase
import Derived.Deep.RegionHeld3
namespace Go.Proofs.Ytnicfiochnkjbaa
open Go.RowKit
section
variable {P : Program} {md : Region.Mode} {ops : Array Oper} {Q : Exit → Act → World → Prop} {S : World → Prop} {fuel : Nat} {listed : Array Bool} {a : Act} {w : World}
/-- An operation that yields v in every world that meets S is taken first. -/
theorem held_take (i d : Nat) {v : Value} (hi : ∃ oi, ops[i]? = some oi ∧ oi.dst = some d ∧ Region.wanted oi (yielded ops a.tmps) = true ∧ ∀ w, S w → (execOp a.eval oi).run P w = .ok (.value v) w)
    (hs : Region.noSelect ops = true) (hf : Region.free md ops listed i = true) (hr : (Region.ready md ops listed).contains i = true)
    (hQ : ∀ c a w, Q (.panic c) (a.put (some d) v) w → Q (.panic c) a w) (hS : S w)
    (h : wpAnyH P md ops Q S fuel (listed.setIfInBounds i true) (a.put (some d) v) w) : wpAnyH P md ops Q S (fuel + 1) listed a w := by
  obtain ⟨oi, h1, h2, h3, h4⟩ := hi
  rw [← h2] at hQ h
  exact wpAnyH_take h1 hs hf hr hQ (.inl ⟨h3, h4⟩) hS h
/-- One that is not wanted. -/
theorem held_skip (i d : Nat) (hi : ∃ oi, ops[i]? = some oi ∧ oi.dst = some d ∧ Region.wanted oi (yielded ops a.tmps) = false)
    (hs : Region.noSelect ops = true) (hf : Region.free md ops listed i = true) (hr : (Region.ready md ops listed).contains i = true)
    (hQ : ∀ c a w, Q (.panic c) (a.put (some d) undef) w → Q (.panic c) a w) (hS : S w)
    (h : wpAnyH P md ops Q S fuel (listed.setIfInBounds i true) (a.put (some d) undef) w) : wpAnyH P md ops Q S (fuel + 1) listed a w := by
  obtain ⟨oi, h1, h2, h3⟩ := hi
  rw [← h2] at hQ h
  exact wpAnyH_take h1 hs hf hr hQ (.inr ⟨h3, rfl⟩) hS h
theorem put_none {d : Option Nat} (h : d = none) (v : Value) : a.put d v = a := by subst h; rfl
theorem put_some (d' : Nat) {d : Option Nat} (h : d = some d') (v : Value) : a.put d v = a.put (some d') v := by subst h; rfl
end
end Go.Proofs.Ytnicfiochnkjbaa
