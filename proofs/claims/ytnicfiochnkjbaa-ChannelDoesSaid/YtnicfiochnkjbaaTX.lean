/- Words that the channels' texts share. No statement of the program is proved here. -/
import Derived.Test.YtnicfiochnkjbaaC9
import Derived.Test.YtnicfiochnkjbaaBlk
import Derived.Test.YtnicfiochnkjbaaApp
import Derived.Deep.DeepCutAuto
import Derived.Deep.RegionLaw
namespace Go.Proofs.Ytnicfiochnkjbaa
open Go.RowKit
theorem own_cap {w : World} {base e size n : Nat} {A : Option Addr} {c : Nat} {xs : List Value} (h : w.ownsRow base e size (.slice A n c) n xs) : n ≤ c ∧ c ≤ maxLen ∧ ((A = none ∧ n = 0 ∧ c = 0) ∨ ∃ g, A = some ⟨g, 0, none⟩) := by
  rcases h.2 with ⟨h, h0⟩ | ⟨g, cap, cur, hv, _, hh, hnc, hm, _⟩
  · injection h with h1 h2 h3
    exact ⟨by omega, by unfold maxLen; omega, .inl ⟨h1, h0, h3⟩⟩
  · injection hv with hA _ hc
    subst hc
    exact ⟨hnc, hm, .inr ⟨g, hA⟩⟩
theorem own_weaken {w : World} {base base' e size n : Nat} {v : Value} {xs : List Value} (h : w.ownsRow base e size v n xs) (hb : base' ≤ base) : w.ownsRow base' e size v n xs := by
  obtain ⟨h1, h2⟩ := h
  refine ⟨h1, ?_⟩
  rcases h2 with h2 | ⟨g, cap, cur, rfl, hg0, r⟩
  · exact .inl h2
  · exact .inr ⟨g, cap, cur, rfl, by omega, r⟩

theorem own_blk {w : World} {base e size n g : Nat} {v : Value} {xs : List Value} (h : w.ownsRow base e size v n xs) (hg : v.ownBlock = some g) : base ≤ g ∧ ∃ cs, Blk w g e cs := by
  rcases h.2 with ⟨rfl, _⟩ | ⟨g', cap, cur, rfl, hb, hh, _⟩
  · simp [Value.ownBlock] at hg
  · have : g' = g := by simpa [Value.ownBlock] using hg
    subst this
    exact ⟨hb, _, hh⟩
def placeI : Option Nat → Int
  | some i => i
  | none => -1
theorem info_wordz : (Try.prog.info? 51).map (fun i => (i.zero, i.size, i.bytes)) = some (some (.string ⟨#[]⟩), 1, 16) := by kernel_rfl
theorem string_one : ∀ x : ByteArray, ∀ u ∈ (Value.string x).cells.toList, u.oneCell' = true := fun x u hu => by
  simp only [Value.cells, List.mem_cons, List.not_mem_nil, or_false] at hu
  rw [hu]; rfl
theorem pushed_at {A2 : Option Addr} {n c2 gg n' cap H : Nat} (hat : (Value.slice A2 n c2).ownBlock = some gg ∨ gg = H + 1) : ∀ g, (Value.slice (some ⟨gg, 0, none⟩) n' cap).ownBlock = some g → (Value.slice A2 n c2).ownBlock = some g ∨ H ≤ g := fun g hg => by
  have : gg = g := by simpa [Value.ownBlock] using hg
  subst this
  rcases hat with h | h
  · exact .inl h
  · exact .inr (by omega)
theorem reads_blk {α : Type} {V : α → Value} (hV : ∀ x, (V x).cells = #[V x]) {W : World} {g : Nat} {t : TypeId} {cs : Array Value} (h : Blk W g t cs) (xs : List α) (hc : cs.toList = xs.map V) : ReadsT V W W.heap.size 1 (some ⟨g, 0, none⟩) xs := fun j hj => by
  refine ⟨g, 0, rfl, h.lt, fun i hi => ?_⟩
  obtain rfl : i = 0 := by omega
  rw [h.cell (0 + j * 1 + 0), hV]
  have : cs[j]? = some (V xs[j]) := by
    rw [← Array.getElem?_toList, hc, List.getElem?_map, List.getElem?_eq_getElem hj]
    rfl
  simpa using this
theorem reads_nil {α : Type} {V : α → Value} {W : World} {B : Nat} {A : Option Addr} : ReadsT V W B 1 A [] := fun j hj => by simp at hj
def wS : ByteArray := ofR [8193]
theorem rof_lit (W : World) (l : List Int) (cs : Array Value) (c : Nat) (hc : cs.toList = l.map atV) (hl : l.length ≤ 1000000) (hu : ∀ x ∈ l, u16 x) :
    Calls Try.prog 43 #[.slice (some ⟨W.heap.size, 0, none⟩) l.length c] (W.alloc (.cells cs 56)) fun e w' => e = .returned (.string (ofR l)) ∧ Kept W w' :=
  (rof_any _ _ l _ hl (reads_blk (fun _ => rfl) (Blk.new W _ cs) l hc) hu).mono fun _ _ h => ⟨h.1, ((Turned.refl _ W).alloc _).to h.2⟩
theorem i64_small {n : Int} (h1 : 0 ≤ n) (h2 : n ≤ 10) : i64 n := ⟨by omega, by omega⟩

/-- A row's element is overwritten. -/
theorem own_over {W : World} {base : Nat} {L : List Value} {E g j N c : Nat} {u : Value} (h : W.ownsRow base E 1 (.slice (some ⟨g, 0, none⟩) N c) N L) : (W.setCell ⟨g, j, none⟩ u).ownsRow base E 1 (.slice (some ⟨g, 0, none⟩) N c) N (L.set j u) := by
  obtain ⟨h1, h2⟩ := h
  refine ⟨by rw [List.length_set]; exact h1, ?_⟩
  rcases h2 with ⟨h2, _⟩ | ⟨g', cap, cur, hv, hg0, hh, hnc, hm, hsz, ht⟩
  · cases h2
  · have hv' := hv
    injection hv' with hA _ hc
    injection hA with hA
    injection hA with hg
    subst hg hc
    refine .inr ⟨g, c, cur.setIfInBounds j u, rfl, hg0, Blk.set_ (w := W) (t := E) hh j u, hnc, hm, by simpa using hsz, ?_⟩
    rw [Array.toList_setIfInBounds, List.take_set, ht]
end Go.Proofs.Ytnicfiochnkjbaa
