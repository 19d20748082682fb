/- Opening a key that is handed over by value. -/
import Derived.Test.YtnicfiochnkjbaaOpenC
namespace Go.Proofs.Ytnicfiochnkjbaa
open Go.ChangeShapes Go.WideShapes Go.ChangeAt Go.RowKit Go.Deep
section
variable {H : Type} {enc : TypeId × Value → H} {w : World} {base : Nat} {spare : Nat → Bool} {held : Bool}
set_option maxRecDepth 100000 in
theorem open_ckey_val {r : Reach} {b0 : Nat} {v : Value} {d : DataW H} {p : List MemPlace} (hv : Value.okWide Try.prog w r b0 25 v) (h : DataW.Trod enc Try.prog w base spare held 25 v d p) : ∃ k : CKey, ckeyOk w k ∧ v = .agg k.cs := by
  obtain ⟨cs, hcs, hsz⟩ := okWide_struct Try.underlying25 hv
  clear hsz
  subst hcs
  obtain ⟨fuel, hf⟩ := h
  obtain ⟨k, hk, hc⟩ := open_ckey hf
  refine ⟨k, hk, ?_⟩
  have : cs = k.cs := Array.toList_inj.1 (by simpa [Value.cells] using hc)
  rw [this]
end
end Go.Proofs.Ytnicfiochnkjbaa
