/- Opening the arguments of the ledger's laws. -/
import Derived.Test.YtkldepflfomegaaRows
import Derived.Test.YtkldepflfomegaaLaw
import Derived.ProofKit
import Derived.Deep.Slices
import Derived.ChangeSame
import Derived.ShutString
import Derived.OpenShut
namespace Go.Proofs.Ytkldepflfomegaa
open Go.ChangeShapes Go.WideShapes Go.ChangeAt Go.RowKit Go.Deep

theorem ownK : ownKnob Try.prog.godebug = none := by kernel_rfl

theorem bd_i64 {n : Int} (h : (Lit.int .i64 n).wf = true) : i64 n := by
  simp [Lit.wf, IntKind.min, IntKind.max, IntKind.signed, IntKind.bits] at h
  exact ⟨by omega, by omega⟩
theorem bd_u16 {n : Int} (h : (Lit.int .u16 n).wf = true) : u16 n := by
  simp [Lit.wf, IntKind.min, IntKind.max, IntKind.signed, IntKind.bits] at h
  exact ⟨by omega, by omega⟩

theorem bd_u8 {n : Int} (h : (Lit.int .u8 n).wf = true) : 0 ≤ n ∧ n ≤ 255 := by
  simp [Lit.wf, IntKind.min, IntKind.max, IntKind.signed, IntKind.bits] at h
  exact ⟨by omega, by omega⟩
instance : Inhabited ByteArray := ⟨⟨#[]⟩⟩

theorem len4 {α : Type} {l : List α} (h : l.length = 4) : ∃ a b c d, l = [a, b, c, d] := by
  match l, h with
  | [a, b, c, d], _ => exact ⟨a, b, c, d, rfl⟩
theorem len7 {α : Type} {l : List α} (h : l.length = 7) : ∃ a b c d e f g, l = [a, b, c, d, e, f, g] := by
  match l, h with
  | [a, b, c, d, e, f, g], _ => exact ⟨a, b, c, d, e, f, g, rfl⟩

section
variable {H : Type} {enc : TypeId × Value → H} {w : World} {base : Nat} {spare : Nat → Bool} {held : Bool}

theorem open_mac {fuel : Nat} {cs : List Value} {x : DataW H × List MemPlace} (h : DataW.trod enc Try.prog w base spare held fuel 36 cs = some x) : ∃ m : Mac, macOk m ∧ cs = (macV m).cells.toList := by
  obtain ⟨ys, n, _, _, hlen, hl, hf⟩ := DataW.trod_struct Try.underlying36 h
  rw [cells_mac] at hlen
  obtain ⟨c0, c1, c2, c3, rfl⟩ := len4 hlen
  have f0 : DataW.trod enc Try.prog w base spare held n 34 [c0] = ys[0]? := by simpa [cells_atom] using hf 0 _ rfl
  have f1 : DataW.trod enc Try.prog w base spare held n 3 [c1] = ys[1]? := by simpa [cells_int] using hf 1 _ rfl
  have f2 : DataW.trod enc Try.prog w base spare held n 2 [c2] = ys[2]? := by simpa [cells_int64] using hf 2 _ rfl
  have f3 : DataW.trod enc Try.prog w base spare held n 9 [c3] = ys[3]? := by simpa [cells_string] using hf 3 _ rfl
  have g : ∀ i, i < 4 → ∃ y, ys[i]? = some y := fun i hi => ⟨ys[i]'(by simp at hl; omega), List.getElem?_eq_getElem _⟩
  obtain ⟨y0, e0⟩ := g 0 (by omega)
  obtain ⟨y1, e1⟩ := g 1 (by omega)
  obtain ⟨y2, e2⟩ := g 2 (by omega)
  obtain ⟨y3, e3⟩ := g 3 (by omega)
  rw [e0] at f0; rw [e1] at f1; rw [e2] at f2; rw [e3] at f3
  obtain ⟨n0, k0, _, w0⟩ := DataW.trod_int Try.underlying34 f0
  obtain ⟨n1, k1, _, w1⟩ := DataW.trod_int Try.underlying3 f1
  obtain ⟨n2, k2, _, w2⟩ := DataW.trod_int Try.underlying2 f2
  obtain ⟨s3, k3, _, w3⟩ := DataW.trod_string Try.underlying9 f3
  simp at k0 k1 k2 k3
  subst k0 k1 k2 k3
  exact ⟨(n0, n1, n2, s3), ⟨bd_u16 w0, bd_i64 w1, bd_i64 w2, w3⟩, rfl⟩

instance : Inhabited Act_ := ⟨⟨0, 0, (0, 0, 0, ⟨#[]⟩), 0⟩⟩
set_option maxRecDepth 100000 in
theorem open_mac_val {r : Reach} {b0 : Nat} {v : Value} {d : DataW H} {p : List MemPlace} (hv : Value.okWide Try.prog w r b0 36 v) (h : DataW.Trod enc Try.prog w base spare held 36 v d p) : ∃ m : Mac, macOk m ∧ v = macV m := by
  obtain ⟨cs, hcs, hsz⟩ := okWide_struct Try.underlying36 hv
  clear hsz
  subst hcs
  obtain ⟨fuel, hf⟩ := h
  obtain ⟨m, hm, hc⟩ := open_mac hf
  refine ⟨m, hm, ?_⟩
  have : cs = (macV m).cells := Array.toList_inj.1 (by simpa [Value.cells] using hc)
  rw [this]
  rfl
theorem cells_u8 : Try.prog.cellsOf 5 = 1 := by kernel_rfl
theorem open_u8 {fuel : Nat} {cs : List Value} {x : DataW H × List MemPlace} (h : DataW.trod enc Try.prog w base spare held fuel 5 cs = some x) : ∃ a : Int, (0 ≤ a ∧ a ≤ 255) ∧ cs = (Value.int .u8 a).cells.toList := by
  obtain ⟨n, rfl, _, hw⟩ := DataW.trod_int Try.underlying5 h
  simp [Lit.wf, IntKind.min, IntKind.max, IntKind.signed, IntKind.bits] at hw
  exact ⟨n, ⟨by omega, by omega⟩, rfl⟩
theorem open_str {fuel : Nat} {cs : List Value} {x : DataW H × List MemPlace} (h : DataW.trod enc Try.prog w base spare held fuel 9 cs = some x) : ∃ a : ByteArray, a.size ≤ maxLen ∧ cs = (Value.string a).cells.toList := by
  obtain ⟨s, rfl, _, hs⟩ := DataW.trod_string Try.underlying9 h
  exact ⟨s, hs, rfl⟩
theorem cells_bool : Try.prog.cellsOf 4 = 1 := by kernel_rfl
theorem open_bl {fuel : Nat} {cs : List Value} {x : DataW H × List MemPlace} (h : DataW.trod enc Try.prog w base spare held fuel 4 cs = some x) : ∃ a : Bool, True ∧ cs = (Value.bool a).cells.toList := by
  obtain ⟨b, rfl, _⟩ := DataW.trod_bool Try.underlying4 h
  exact ⟨b, trivial, rfl⟩
theorem cells_act : Try.prog.cellsOf 38 = 7 := by kernel_rfl
theorem open_act {fuel : Nat} {cs : List Value} {x : DataW H × List MemPlace} (h : DataW.trod enc Try.prog w base spare held fuel 38 cs = some x) : ∃ a : Act_, actOk a ∧ cs = (actV a).cells.toList := by
  obtain ⟨ys, n, _, _, hlen, hl, hf⟩ := DataW.trod_struct Try.underlying38 h
  rw [cells_act] at hlen
  obtain ⟨c0, c1, c2, c3, c4, c5, c6, rfl⟩ := len7 hlen
  have f0 : DataW.trod enc Try.prog w base spare held n 3 [c0] = ys[0]? := by simpa [cells_int] using hf 0 _ rfl
  have f1 : DataW.trod enc Try.prog w base spare held n 34 [c1] = ys[1]? := by simpa [cells_atom] using hf 1 _ rfl
  have f2 : DataW.trod enc Try.prog w base spare held n 36 [c2, c3, c4, c5] = ys[2]? := by simpa [cells_mac] using hf 2 _ rfl
  have f3 : DataW.trod enc Try.prog w base spare held n 3 [c6] = ys[3]? := by simpa [cells_int] using hf 3 _ rfl
  have g : ∀ i, i < 4 → ∃ y, ys[i]? = some y := fun i hi => ⟨ys[i]'(by simp at hl; omega), List.getElem?_eq_getElem _⟩
  obtain ⟨y0, e0⟩ := g 0 (by omega)
  obtain ⟨y1, e1⟩ := g 1 (by omega)
  obtain ⟨y2, e2⟩ := g 2 (by omega)
  obtain ⟨y3, e3⟩ := g 3 (by omega)
  rw [e0] at f0; rw [e1] at f1; rw [e2] at f2; rw [e3] at f3
  obtain ⟨n0, k0, _, w0⟩ := DataW.trod_int Try.underlying3 f0
  obtain ⟨n1, k1, _, w1⟩ := DataW.trod_int Try.underlying34 f1
  obtain ⟨m, hm, k2⟩ := open_mac f2
  obtain ⟨n3, k3, _, w3⟩ := DataW.trod_int Try.underlying3 f3
  obtain ⟨a, b, c, d⟩ := m
  simp [macV, Value.cells] at k0 k1 k2 k3
  obtain ⟨rfl, rfl, rfl, rfl⟩ := k2
  subst k0 k1 k3
  exact ⟨⟨n0, n1, (a, b, c, d), n3⟩, ⟨bd_i64 w0, bd_u16 w1, hm, bd_i64 w3⟩, rfl⟩

/-- A slice of things that came in, read as a list of plain things. -/
theorem open_list {α : Type} [Inhabited α] {V : α → Value} {ok : α → Prop} {t e size : Nat} (ht : Try.prog.underlying t = some (.slice e)) (hs : Try.prog.cellsOf e = size) (hpos : 0 < size)
    (hopen : ∀ (fuel : Nat) (cs : List Value) (x : DataW H × List MemPlace), DataW.trod enc Try.prog w base spare held fuel e cs = some x → ∃ a : α, ok a ∧ cs = (V a).cells.toList)
    {A : Option Addr} {len cap : Nat} {d : DataW H} {p : List MemPlace} (h : DataW.Trod enc Try.prog w base spare held t (.slice A len cap) d p) :
    ∃ l : List α, l.length = len ∧ (∀ x ∈ l, ok x) ∧ ReadsT V w w.heap.size size A l ∧ len ≤ maxLen := by
  obtain ⟨fuel, hf⟩ := h
  rcases open_slice ht hf with ⟨hcs, _⟩ | ⟨a, len', cap', m, n, D, Pl, hcs, hb, hlc, hm, hmm, hx, hi⟩
  · simp [Value.cells] at hcs
    obtain ⟨rfl, rfl, rfl⟩ := hcs
    exact ⟨[], rfl, by simp, fun j hj => by simp at hj, Nat.zero_le _⟩
  · simp [Value.cells] at hcs
    obtain ⟨rfl, rfl, rfl⟩ := hcs
    have hlm : len ≤ m := by rw [hmm]; split <;> omega
    have hch : ∀ i, i < len → ∃ y : α, ok y ∧ (V y).cells.size = size ∧ ∀ k, k < size → w.cell? ((a.add (i * size)).add k) = (V y).cells[k]? := fun i hil => by
      obtain ⟨cs', h1, h2⟩ := hi i (by omega)
      obtain ⟨y, hy, rfl⟩ := hopen _ _ _ h2
      rw [hs] at h1
      obtain ⟨_, hl', hc⟩ := World.cells?_some h1
      exact ⟨y, hy, by simpa using hl', fun k hk => (hc k hk).trans (by simp)⟩
    obtain ⟨f, hff⟩ := choose_lt hch
    refine ⟨(List.range len).map f, by simp, ?_, ?_, by omega⟩
    · intro x hx
      obtain ⟨i, hi, rfl⟩ := List.mem_map.1 hx
      exact (hff i (by simpa using hi)).1
    · intro j hj
      simp at hj
      obtain ⟨_, z1, z2⟩ := hff 0 (by omega)
      have h0 := z2 0 hpos
      rw [Array.getElem?_eq_getElem (by omega)] at h0
      obtain ⟨b, o, sp⟩ := a
      have hsp : sp = none := by
        have := World.cell?_spot h0
        simpa [Addr.add] using this
      subst hsp
      have hlt : b < w.heap.size := by
        have := World.block_lt_of_cell? w _ h0
        simpa [Addr.add] using this
      obtain ⟨_, y1, y2⟩ := hff j hj
      refine ⟨b, o, rfl, hlt, fun k hk => ?_⟩
      have h1 := y2 k hk
      simp only [Addr.add_lit] at h1
      rw [h1]
      simp
end
end Go.Proofs.Ytkldepflfomegaa
