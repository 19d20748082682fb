/- Rows of plain things: words that the seats of words, caches and channels share. -/
import Derived.Test.YtnicfiochnkjbaaBase
import Derived.Test.YtnicfiochnkjbaaProg
import Derived.Deep.LoopGhost
import Derived.KernelRfl
namespace Go.Proofs.Ytnicfiochnkjbaa
open Go.RowKit

/-- The cells of an element of a row. -/
theorem own_at {w : World} {base e size n : Nat} {A : Option Addr} {c : Nat} {xs : List Value} (h : w.ownsRow base e size (.slice A n c) n xs) {j : Nat} (hj : j < n) : ∃ g, A = some ⟨g, 0, none⟩ ∧ g < w.heap.size ∧ ∀ i, i < size → w.cell? ⟨g, j * size + i, none⟩ = xs[j * size + i]? := by
  rcases h.2 with ⟨h, h0⟩ | ⟨g, cap, cur, hv, _, hh, hnc, _, hsz, ht⟩
  · omega
  · injection hv with hA _ hc
    subst hA hc
    refine ⟨g, rfl, lt_of_heap hh, fun i hi => ?_⟩
    rw [cell_of_row w g _ cur e (0, 0) hh, ← ht]
    rw [List.getElem?_take_of_lt (by
      have : (j + 1) * size ≤ n * size := Nat.mul_le_mul_right _ hj
      rw [Nat.add_mul] at this; omega)]
    simp

theorem flat_at {α β : Type} (f : α → List β) (size : Nat) : ∀ (xs : List α), (∀ x ∈ xs, (f x).length = size) → ∀ j i, i < size → (xs.flatMap f)[j * size + i]? = (xs[j]?).bind fun x => (f x)[i]?
  | [], _, j, i, _ => by simp
  | x :: xs, h, 0, i, hi => by
    have hx : (f x).length = size := h x (by simp)
    simp only [List.flatMap_cons, Nat.zero_mul, Nat.zero_add, List.getElem?_cons_zero, Option.bind_some]
    rw [List.getElem?_append_left (by omega)]
  | x :: xs, h, j + 1, i, hi => by
    have hx : (f x).length = size := h x (by simp)
    simp only [List.flatMap_cons, List.getElem?_cons_succ]
    rw [List.getElem?_append_right (by rw [hx, Nat.add_mul]; omega), hx]
    have e : (j + 1) * size + i - size = j * size + i := by rw [Nat.add_mul]; omega
    rw [e]
    exact flat_at f size xs (fun y hy => h y (by simp [hy])) j i hi

/-- .. where the row is a list of plain things. -/
theorem own_elem {α : Type} (V : α → Value) {w : World} {base e size : Nat} {A : Option Addr} {c : Nat} {xs : List α} (hV : ∀ x, (V x).cells.size = size) (h : w.ownsRow base e size (.slice A xs.length c) xs.length ((xs.map V).flatMap (·.cells.toList))) {j : Nat} (hj : j < xs.length) :
    ∃ g, A = some ⟨g, 0, none⟩ ∧ g < w.heap.size ∧ ∀ i, i < size → w.cell? ⟨g, j * size + i, none⟩ = (V xs[j]).cells[i]? := by
  obtain ⟨g, h1, h2, h3⟩ := own_at h hj
  refine ⟨g, h1, h2, fun i hi => ?_⟩
  rw [h3 i hi, flat_at _ size _ (by
    intro x hx
    obtain ⟨y, _, rfl⟩ := List.mem_map.1 hx
    simpa using hV y) j i hi, List.getElem?_map, List.getElem?_eq_getElem hj]
  simp

/-- A slice that reads as a list of plain things, nil let in. -/
def ReadsT {α : Type} (V : α → Value) (w : World) (B size : Nat) (A : Option Addr) (xs : List α) : Prop :=
  ∀ j (hj : j < xs.length), ∃ b o, A = some ⟨b, o, none⟩ ∧ b < B ∧ ∀ i, i < size → w.cell? ⟨b, o + j * size + i, none⟩ = (V xs[j]).cells[i]?

section
variable {α : Type} {V : α → Value} {w w' : World} {B size : Nat} {A : Option Addr} {xs : List α}
theorem ReadsT.below (h : ReadsT V w B size A xs) (hb : ∀ k, k < B → w'.heap[k]? = w.heap[k]?) : ReadsT V w' B size A xs := fun j hj => by
  obtain ⟨b, o, h1, h2, h3⟩ := h j hj
  exact ⟨b, o, h1, h2, fun i hi => (World.cell?_of_block (w := w) (hb b h2)).trans (h3 i hi)⟩
theorem ReadsT.of_own {base e c : Nat} (hV : ∀ x, (V x).cells.size = size) (h : w.ownsRow base e size (.slice A xs.length c) xs.length ((xs.map V).flatMap (·.cells.toList))) : ReadsT V w w.heap.size size A xs := fun j hj => by
  obtain ⟨g, h1, h2, h3⟩ := own_elem V hV h hj
  exact ⟨g, 0, h1, h2, fun i hi => by rw [Nat.zero_add]; exact h3 i hi⟩
end

theorem ReadsT.kept {α : Type} {V : α → Value} {w w' : World} {size : Nat} {A : Option Addr} {xs : List α} (h : ReadsT V w w.heap.size size A xs) (hK : Kept w w') : ReadsT V w' w'.heap.size size A xs := fun j hj => by
  obtain ⟨b, o, h1, h2, h3⟩ := (h.below (w' := w') (fun k hk => hK.block k hk (fun h => h))) j hj
  exact ⟨b, o, h1, Nat.lt_of_lt_of_le h2 hK.size, h3⟩
/-- Where each thing takes one cell. -/
theorem one_flat {α : Type} (V : α → Value) (hV : ∀ x, (V x).cells = #[V x]) : ∀ xs : List α, (xs.map V).flatMap (·.cells.toList) = xs.map V
  | [] => rfl
  | x :: xs => by simp only [List.map_cons, List.flatMap_cons, one_flat V hV xs, hV]; rfl
theorem ReadsT.of_one {α : Type} {V : α → Value} {w : World} {A : Option Addr} {xs : List α} {base e c : Nat} (hV : ∀ x, (V x).cells = #[V x]) (h : w.ownsRow base e 1 (.slice A xs.length c) xs.length (xs.map V)) : ReadsT V w w.heap.size 1 A xs :=
  ReadsT.of_own (e := e) (c := c) (base := base) (fun x => by rw [hV]; rfl) (by rw [one_flat V hV]; exact h)
theorem ReadsT.cell_one {α : Type} {V : α → Value} {w : World} {B : Nat} {A : Option Addr} {xs : List α} (hV : ∀ x, (V x).cells = #[V x]) (h : ReadsT V w B 1 A xs) {j : Nat} (hj : j < xs.length) : ∃ b o, A = some ⟨b, o, none⟩ ∧ b < B ∧ w.cell? ⟨b, o + j, none⟩ = some (V xs[j]) := by
  obtain ⟨b, o, h1, h2, h3⟩ := h j hj
  refine ⟨b, o, h1, h2, ?_⟩
  have := h3 0 (by omega)
  rw [hV] at this
  simpa using this
theorem bytes_inj {a b : ByteArray} : a.toList = b.toList ↔ a = b := by
  rw [ByteArray.toList_eq, ByteArray.toList_eq]
  exact ⟨fun h => ByteArray.ext (Array.toList_inj.mp h), fun h => by rw [h]⟩
theorem bytes_beq {a b : ByteArray} : (a.toList == b.toList) = decide (a = b) := by
  rw [Bool.eq_iff_iff]
  simp [bytes_inj]
end Go.Proofs.Ytnicfiochnkjbaa
