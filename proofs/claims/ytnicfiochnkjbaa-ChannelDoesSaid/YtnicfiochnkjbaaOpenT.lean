/- Opening the arguments of the channels' laws. -/
import Derived.Test.YtnicfiochnkjbaaOpen0
import Derived.Test.YtnicfiochnkjbaaT12
namespace Go.Proofs.Ytnicfiochnkjbaa
open Go.ChangeShapes Go.WideShapes Go.ChangeAt Go.RowKit Go.Deep

theorem len4 {α : Type} {l : List α} (h : l.length = 4) : ∃ a b c d, l = [a, b, c, d] := by
  match l, h with
  | [a, b, c, d], _ => exact ⟨a, b, c, d, rfl⟩
theorem cells_set : Try.prog.cellsOf 23 = 1 := by kernel_rfl
theorem cells_i64 : Try.prog.cellsOf 2 = 1 := by kernel_rfl
theorem cells_tact : Try.prog.cellsOf 62 = 4 := by kernel_rfl
theorem cells_atm : Try.prog.cellsOf 56 = 1 := by kernel_rfl
section
variable {H : Type} {enc : TypeId × Value → H} {w : World} {base : Nat} {spare : Nat → Bool} {held : Bool}
theorem open_set {fuel : Nat} {c : Value} {x : DataW H × List MemPlace} (h : DataW.trod enc Try.prog w base spare held fuel 23 [c] = some x) :
    ∃ (A : Option Addr) (cap : Nat) (l : List ByteArray), c = .slice A l.length cap ∧ (∀ s ∈ l, s.size ≤ maxLen) ∧ ReadsT Value.string w w.heap.size 1 A l ∧ l.length ≤ maxLen := by
  have key : ∀ (A : Option Addr) (len cap : Nat), c = .slice A len cap → ∃ l : List ByteArray, l.length = len ∧ (∀ s ∈ l, s.size ≤ maxLen) ∧ ReadsT Value.string w w.heap.size 1 A l ∧ len ≤ maxLen := fun A len cap hc => by
    subst hc
    obtain ⟨d, p⟩ := x
    exact open_list (V := Value.string) (ok := fun s => s.size ≤ maxLen) Try.underlying23 cells_word (by omega) (fun _ _ _ h => open_word h) (t := 23) (A := A) (len := len) (cap := cap) (d := d) (p := p) ⟨fuel, h⟩
  rcases open_slice Try.underlying23 h with ⟨hcs, _⟩ | ⟨a, len', cap', m, n, D, Pl, hcs, _⟩
  · simp at hcs
    obtain ⟨l, h0, h1, h2, h3⟩ := key none 0 0 hcs
    exact ⟨none, 0, l, by rw [hcs, h0], h1, h2, by rw [h0]; exact h3⟩
  · simp at hcs
    obtain ⟨l, rfl, h1, h2, h3⟩ := key (some a) len' cap' hcs
    exact ⟨some a, cap', l, hcs, h1, h2, h3⟩
instance : Inhabited TAct := ⟨⟨0, 0, none, 0, [], 0⟩⟩
theorem open_tact {fuel : Nat} {cs : List Value} {x : DataW H × List MemPlace} (h : DataW.trod enc Try.prog w base spare held fuel 62 cs = some x) : ∃ a : TAct, tactOk w a ∧ cs = (tactV a).cells.toList := by
  obtain ⟨ys, n, _, _, hlen, hl, hf⟩ := DataW.trod_struct Try.underlying62 h
  rw [cells_tact] at hlen
  obtain ⟨c0, c1, c2, c3, rfl⟩ := len4 hlen
  have f0 : DataW.trod enc Try.prog w base spare held n 3 [c0] = ys[0]? := by simpa [cells_it] using hf 0 _ rfl
  have f1 : DataW.trod enc Try.prog w base spare held n 56 [c1] = ys[1]? := by simpa [cells_atm] using hf 1 _ rfl
  have f2 : DataW.trod enc Try.prog w base spare held n 23 [c2] = ys[2]? := by simpa [cells_set] using hf 2 _ rfl
  have f3 : DataW.trod enc Try.prog w base spare held n 2 [c3] = ys[3]? := by simpa [cells_i64] using hf 3 _ rfl
  have g : ∀ i, i < 4 → ∃ y, ys[i]? = some y := fun i hi => ⟨ys[i]'(by simp at hl; omega), List.getElem?_eq_getElem _⟩
  obtain ⟨y0, e0⟩ := g 0 (by omega)
  obtain ⟨y1, e1⟩ := g 1 (by omega)
  obtain ⟨y2, e2⟩ := g 2 (by omega)
  obtain ⟨y3, e3⟩ := g 3 (by omega)
  rw [e0] at f0; rw [e1] at f1; rw [e2] at f2; rw [e3] at f3
  obtain ⟨n0, k0, _, w0⟩ := DataW.trod_int Try.underlying3 f0
  obtain ⟨n1, k1, _, w1⟩ := DataW.trod_int Try.underlying56 f1
  obtain ⟨A, c, who, k2, q1, q2, q3⟩ := open_set f2
  obtain ⟨n3, k3, _, w3⟩ := DataW.trod_int Try.underlying2 f3
  simp at k0 k1 k3
  subst k0 k1 k2 k3
  exact ⟨⟨n0, n1, A, c, who, n3⟩, ⟨bd_i64 w0, bd_u16 w1, bd_i64 w3, q3, q1, q2⟩, rfl⟩
end
end Go.Proofs.Ytnicfiochnkjbaa
