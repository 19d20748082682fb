/- The law LedgerDoes: words. -/
import Derived.Test.YtkldepflfomegaaBody
import Derived.Test.YtkldepflfomegaaTrue
namespace Go.Proofs.Ytkldepflfomegaa
open Go.RowKit
open Go.Maps (Keyed)

/-- Both books hold the same, and no third block is spoken of. -/
def Both0 (w wr : World) (p q : Nat) (S : List Sig) (M : List Made) (T : List Int) : Prop :=
  ∃ s1 s2 s3, RefIs wr q s1 s2 s3 S M T ∧ (∀ k, RefFoot q s1 s2 s3 k → w.heap.size ≤ k ∧ k < wr.heap.size) ∧ BookP w wr p S M T (RefFoot q s1 s2 s3)
section
variable {w wr wr' : World} {p q xb : Nat} {S : List Sig} {M : List Made} {T : List Int}
theorem Both.drop (h : Both w wr p q xb S M T S M T) : Both0 w wr p q S M T := by
  obtain ⟨s1, s2, s3, h1, h2, h3, h4⟩ := h
  exact ⟨s1, s2, s3, h1, fun k hk => ⟨(h2 k hk).1, (h2 k hk).2.1⟩, h3.fewer (fun k hk => .inr hk)⟩
theorem Both0.size (h : Both0 w wr p q S M T) : w.heap.size ≤ wr.heap.size := by
  obtain ⟨s1, s2, s3, h1, h2, h3⟩ := h
  exact h3.size
theorem Both0.since (h : Both0 w wr p q S M T) : Turned (From w.heap.size) w wr := by
  obtain ⟨s1, s2, s3, h1, h2, h3⟩ := h
  exact h3.since
theorem Both0.kept (h : Both0 w wr p q S M T) (hK : Kept wr wr') : Both0 w wr' p q S M T := by
  obtain ⟨s1, s2, s3, h1, h2, h3⟩ := h
  exact ⟨s1, s2, s3, h1.turned hK (fun _ _ h => h), fun k hk => ⟨(h2 k hk).1, Nat.lt_of_lt_of_le (h2 k hk).2 hK.size⟩, h3.kept hK⟩
theorem Both0.renew (h : Both0 w wr p q S M T) (hK : Kept wr wr') (hlt : wr.heap.size < wr'.heap.size) : Both w wr' p q wr.heap.size S M T S M T := by
  obtain ⟨s1, s2, s3, h1, h2, h3⟩ := h
  refine ⟨s1, s2, s3, h1.turned hK (fun _ _ h => h), fun k hk => ⟨(h2 k hk).1, Nat.lt_of_lt_of_le (h2 k hk).2 hK.size, fun e => by have := (h2 k hk).2; omega⟩, h3.protect hK ?_, hlt⟩
  rintro k (hk | hk)
  · exact .inr (by omega)
  · exact .inl hk
theorem Both0.new (h : BookP w wr p [] [] [] (fun _ => False)) : Both0 w (wr.alloc (.cells #[.slice none 0 0, .slice none 0 0, .slice none 0 0] 32)) p wr.heap.size [] [] [] := by
  have hsz := h.size
  refine ⟨.slice none 0 0, .slice none 0 0, .slice none 0 0, ⟨Blk.new wr _ _, World.ownsRow_nil _ _ _ _, World.ownsRow_nil _ _ _ _, World.ownsRow_nil _ _ _ _⟩, ?_, h.protect ((Turned.refl _ wr).alloc _) ?_⟩
  all_goals
    rintro k (rfl | h | h | h)
    all_goals first
      | cases h
      | skip
  · exact ⟨hsz, by simp⟩
  · exact .inr (Nat.le_refl _)
end
theorem macs_flat_reads {w : World} {base c : Nat} {A : Option Addr} {xs : List Mac} (h : w.ownsRow base 36 4 (.slice A xs.length c) xs.length ((xs.map macV).flatMap (·.cells.toList))) : ReadsT macV w w.heap.size 4 A xs := ReadsT.of_own (fun _ => rfl) h
theorem ReadsT.kept {α : Type} {V : α → Value} {w w' : World} {size : Nat} {A : Option Addr} {xs : List α} (h : ReadsT V w w.heap.size size A xs) (hK : Kept w w') : ReadsT V w' w'.heap.size size A xs := fun j hj => by
  obtain ⟨b, o, h1, h2, h3⟩ := (h.below (w' := w') (fun k hk => hK.block k hk (fun h => h))) j hj
  exact ⟨b, o, h1, Nat.lt_of_lt_of_le h2 hK.size, h3⟩
theorem does_facts {W W' : World} {xb q : Nat} {kind key a wy sq y : Int} {s : ByteArray} {v0 v1 v2 : Value} (hX : ActB W' xb kind key a wy sq s y) (hK : Kept W W') (hq : q < W.heap.size) (h0 : W.cell? ⟨q, 0, none⟩ = some v0) (h1 : W.cell? ⟨q, 1, none⟩ = some v1) (h2 : W.cell? ⟨q, 2, none⟩ = some v2) :
    W'.cell? ⟨xb, 1, none⟩ = some (.int .u16 key) ∧ W'.cell? ⟨xb, 5, none⟩ = some (.string s) ∧ W'.cell? ⟨q, 0, none⟩ = some v0 ∧ W'.cell? ⟨q, 1, none⟩ = some v1 ∧ W'.cell? ⟨q, 2, none⟩ = some v2 :=
  ⟨Blk.cell hX 1, Blk.cell hX 5, (hK.cell hq (fun h => h)).trans h0, (hK.cell hq (fun h => h)).trans h1, (hK.cell hq (fun h => h)).trans h2⟩
theorem rem_lt (y : Int) (i : Nat) (h : (i : Int) < y.tmod 2100) : i < 2100 := by
  have := Int.tmod_lt_of_pos y (b := 2100) (by omega)
  omega
end Go.Proofs.Ytkldepflfomegaa
