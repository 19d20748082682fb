/- Opening the arguments of the laws. -/
import Derived.Test.YtnicfiochnkjbaaRows
import Derived.Test.YtnicfiochnkjbaaRow
import Derived.ProofKit
import Derived.Deep.Slices
import Derived.ChangeSame
import Derived.ShutString
import Derived.OpenShut
namespace Go.Proofs.Ytnicfiochnkjbaa
open Go.ChangeShapes Go.WideShapes Go.ChangeAt Go.RowKit Go.Deep

theorem ownK : ownKnob Try.prog.godebug = none := by kernel_rfl
theorem laid : laidOutB Try.prog = true := by kernel_rfl
theorem bd_i64 {n : Int} (h : (Lit.int .i64 n).wf = true) : -9223372036854775808 ≤ n ∧ n ≤ 9223372036854775807 := by
  simp [Lit.wf, IntKind.min, IntKind.max, IntKind.signed, IntKind.bits] at h
  exact ⟨by omega, by omega⟩
theorem bd_u16 {n : Int} (h : (Lit.int .u16 n).wf = true) : 0 ≤ n ∧ n ≤ 65535 := by
  simp [Lit.wf, IntKind.min, IntKind.max, IntKind.signed, IntKind.bits] at h
  exact ⟨by omega, by omega⟩
instance : Inhabited ByteArray := ⟨⟨#[]⟩⟩

section
variable {H : Type} {enc : TypeId × Value → H} {w : World} {base : Nat} {spare : Nat → Bool} {held : Bool}
theorem cells_atom : Try.prog.cellsOf 56 = 1 := by kernel_rfl
theorem cells_word : Try.prog.cellsOf 51 = 1 := by kernel_rfl
theorem open_atom {fuel : Nat} {cs : List Value} {x : DataW H × List MemPlace} (h : DataW.trod enc Try.prog w base spare held fuel 56 cs = some x) : ∃ a : Int, (0 ≤ a ∧ a ≤ 65535) ∧ cs = (Value.int .u16 a).cells.toList := by
  obtain ⟨n, rfl, _, hw⟩ := DataW.trod_int Try.underlying56 h
  exact ⟨n, bd_u16 hw, rfl⟩
theorem open_word {fuel : Nat} {cs : List Value} {x : DataW H × List MemPlace} (h : DataW.trod enc Try.prog w base spare held fuel 51 cs = some x) : ∃ a : ByteArray, a.size ≤ maxLen ∧ cs = (Value.string a).cells.toList := by
  obtain ⟨s, rfl, _, hs⟩ := DataW.trod_string Try.underlying51 h
  exact ⟨s, hs, rfl⟩
/-- A slice of things that came in, read as a list of plain things. -/
theorem open_list {α : Type} [Inhabited α] {V : α → Value} {ok : α → Prop} {t e size : Nat} (ht : Try.prog.underlying t = some (.slice e)) (hs : Try.prog.cellsOf e = size) (hpos : 0 < size)
    (hopen : ∀ (fuel : Nat) (cs : List Value) (x : DataW H × List MemPlace), DataW.trod enc Try.prog w base spare held fuel e cs = some x → ∃ a : α, ok a ∧ cs = (V a).cells.toList)
    {A : Option Addr} {len cap : Nat} {d : DataW H} {p : List MemPlace} (h : DataW.Trod enc Try.prog w base spare held t (.slice A len cap) d p) :
    ∃ l : List α, l.length = len ∧ (∀ x ∈ l, ok x) ∧ ReadsT V w w.heap.size size A l ∧ len ≤ maxLen := by
  obtain ⟨fuel, hf⟩ := h
  rcases open_slice ht hf with ⟨hcs, _⟩ | ⟨a, len', cap', m, n, D, Pl, hcs, hb, hlc, hm, hmm, hx, hi⟩
  · simp [Value.cells] at hcs
    obtain ⟨rfl, rfl, rfl⟩ := hcs
    exact ⟨[], rfl, by simp, fun j hj => by simp at hj, Nat.zero_le _⟩
  · simp [Value.cells] at hcs
    obtain ⟨rfl, rfl, rfl⟩ := hcs
    have hlm : len ≤ m := by rw [hmm]; split <;> omega
    have hch : ∀ i, i < len → ∃ y : α, ok y ∧ (V y).cells.size = size ∧ ∀ k, k < size → w.cell? ((a.add (i * size)).add k) = (V y).cells[k]? := fun i hil => by
      obtain ⟨cs', h1, h2⟩ := hi i (by omega)
      obtain ⟨y, hy, rfl⟩ := hopen _ _ _ h2
      rw [hs] at h1
      obtain ⟨_, hl', hc⟩ := World.cells?_some h1
      exact ⟨y, hy, by simpa using hl', fun k hk => (hc k hk).trans (by simp)⟩
    obtain ⟨f, hff⟩ := choose_lt hch
    refine ⟨(List.range len).map f, by simp, ?_, ?_, by omega⟩
    · intro x hx
      obtain ⟨i, hi, rfl⟩ := List.mem_map.1 hx
      exact (hff i (by simpa using hi)).1
    · intro j hj
      simp at hj
      obtain ⟨_, z1, z2⟩ := hff 0 (by omega)
      have h0 := z2 0 hpos
      rw [Array.getElem?_eq_getElem (by omega)] at h0
      obtain ⟨b, o, sp⟩ := a
      have hsp : sp = none := by
        have := World.cell?_spot h0
        simpa [Addr.add] using this
      subst hsp
      have hlt : b < w.heap.size := by
        have := World.block_lt_of_cell? w _ h0
        simpa [Addr.add] using this
      obtain ⟨_, y1, y2⟩ := hff j hj
      refine ⟨b, o, rfl, hlt, fun k hk => ?_⟩
      have h1 := y2 k hk
      simp only [Addr.add_lit] at h1
      rw [h1]
      simp
end
end Go.Proofs.Ytnicfiochnkjbaa
