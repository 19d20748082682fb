/- The program's book and the reference's, side by side. -/
import Derived.Test.YtkldepflfomegaaRef5
namespace Go.Proofs.Ytkldepflfomegaa
open Go.RowKit
open Go.Maps (Keyed)

def PrB (xb q : Nat) (s1 s2 s3 : Value) (k : Nat) : Prop := k = xb ∨ RefFoot q s1 s2 s3 k

/-- The program's book p holds S, M, T; the reference's book q holds S', M', T'; they share no block, and block xb is neither's. -/
def Both (w wr : World) (p q xb : Nat) (S : List Sig) (M : List Made) (T : List Int) (S' : List Sig) (M' : List Made) (T' : List Int) : Prop :=
  ∃ s1 s2 s3, RefIs wr q s1 s2 s3 S' M' T' ∧ (∀ k, RefFoot q s1 s2 s3 k → w.heap.size ≤ k ∧ k < wr.heap.size ∧ k ≠ xb) ∧ BookP w wr p S M T (PrB xb q s1 s2 s3) ∧ xb < wr.heap.size

section
variable {w wr wr' : World} {p q xb : Nat} {S S' : List Sig} {M M' : List Made} {T T' : List Int}

theorem BookP.shift {Pr Pr' U : Nat → Prop} (h : BookP w wr p S M T Pr) (hT : Turned U wr wr') (hU : ∀ k, U k → Pr k ∧ w.heap.size ≤ k) (hP : ∀ k, Pr' k → Pr k ∨ wr.heap.size ≤ k) : BookP w wr' p S M T Pr' := by
  obtain ⟨F, h1, h2, h3⟩ := h
  refine ⟨F, h1.turned hT (fun k hk hu => (h2 k hk).2.2 (hU k hu).1), fun k hk => ⟨(h2 k hk).1, Nat.lt_of_lt_of_le (h2 k hk).2.1 hT.size, fun hp => ?_⟩, h3.then_ hT (fun k _ hu => (hU k hu).2)⟩
  rcases hP k hp with h | h
  · exact (h2 k hk).2.2 h
  · have := (h2 k hk).2.1; omega

theorem Both.size (h : Both w wr p q xb S M T S' M' T') : w.heap.size ≤ wr.heap.size := by
  obtain ⟨s1, s2, s3, h1, h2, h3, h4⟩ := h
  exact h3.size
theorem Both.since (h : Both w wr p q xb S M T S' M' T') : Turned (From w.heap.size) w wr := by
  obtain ⟨s1, s2, s3, h1, h2, h3, h4⟩ := h
  exact h3.since
theorem Both.kept (h : Both w wr p q xb S M T S' M' T') (hK : Kept wr wr') : Both w wr' p q xb S M T S' M' T' := by
  obtain ⟨s1, s2, s3, h1, h2, h3, h4⟩ := h
  exact ⟨s1, s2, s3, h1.turned hK (fun _ _ h => h), fun k hk => ⟨(h2 k hk).1, Nat.lt_of_lt_of_le (h2 k hk).2.1 hK.size, (h2 k hk).2.2⟩, h3.kept hK, Nat.lt_of_lt_of_le h4 hK.size⟩
/-- Another block beside the two: one that has just come. -/
theorem Both.renew (h : Both w wr p q xb S M T S' M' T') (hK : Kept wr wr') (hlt : wr.heap.size < wr'.heap.size) : Both w wr' p q wr.heap.size S M T S' M' T' := by
  obtain ⟨s1, s2, s3, h1, h2, h3, h4⟩ := h
  refine ⟨s1, s2, s3, h1.turned hK (fun _ _ h => h), fun k hk => ⟨(h2 k hk).1, Nat.lt_of_lt_of_le (h2 k hk).2.1 hK.size, fun e => by have := (h2 k hk).2.1; omega⟩, h3.protect hK ?_, hlt⟩
  rintro k (hk | hk)
  · exact .inr (by omega)
  · exact .inl (.inr hk)
theorem prB_lt {s1 s2 s3 : Value} (h2 : ∀ k, RefFoot q s1 s2 s3 k → w.heap.size ≤ k ∧ k < wr.heap.size ∧ k ≠ xb) (h4 : xb < wr.heap.size) : ∀ k, PrB xb q s1 s2 s3 k → k < wr.heap.size := by
  rintro k (rfl | hk)
  · exact h4
  · exact (h2 k hk).2.1
/-- The program's book has gone on. -/
theorem both_book {s1 s2 s3 : Value} {S1 : List Sig} {M1 : List Made} {T1 : List Int} (h1 : RefIs wr q s1 s2 s3 S' M' T') (h2 : ∀ k, RefFoot q s1 s2 s3 k → w.heap.size ≤ k ∧ k < wr.heap.size ∧ k ≠ xb) (h4 : xb < wr.heap.size)
    (hb : BookP w wr' p S1 M1 T1 (PrB xb q s1 s2 s3)) (ht : Turned (fun k => w.heap.size ≤ k ∧ ¬ PrB xb q s1 s2 s3 k) wr wr') : Both w wr' p q xb S1 M1 T1 S' M' T' ∧ Turned (fun k => w.heap.size ≤ k ∧ k ≠ xb) wr wr' :=
  ⟨⟨s1, s2, s3, h1.turned ht (fun _ hk hu => hu.2 (.inr hk)), fun k hk => ⟨(h2 k hk).1, Nat.lt_of_lt_of_le (h2 k hk).2.1 ht.size, (h2 k hk).2.2⟩, hb, Nat.lt_of_lt_of_le h4 ht.size⟩, ht.mono (fun _ _ hk => ⟨hk.1, fun e => hk.2 (.inl e)⟩)⟩
/-- The reference's book has gone on. -/
theorem both_ref {s1 s2 s3 : Value} {S1 : List Sig} {M1 : List Made} {T1 : List Int} (h2 : ∀ k, RefFoot q s1 s2 s3 k → w.heap.size ≤ k ∧ k < wr.heap.size ∧ k ≠ xb) (h3 : BookP w wr p S M T (PrB xb q s1 s2 s3)) (h4 : xb < wr.heap.size)
    (hs : RefStep wr wr' q s1 s2 s3 S1 M1 T1) : Both w wr' p q xb S M T S1 M1 T1 ∧ Turned (fun k => w.heap.size ≤ k ∧ k ≠ xb) wr wr' := by
  obtain ⟨t1, t2, t3, a1, a2, a3⟩ := hs
  have hsz := a2.size
  have hws := h3.size
  refine ⟨⟨t1, t2, t3, a1, fun k hk => ?_, h3.shift a2 (fun k hk => ⟨.inr hk, (h2 k hk).1⟩) ?_, Nat.lt_of_lt_of_le h4 hsz⟩, a2.mono (fun k _ hk => ⟨(h2 k hk).1, (h2 k hk).2.2⟩)⟩
  · have hlt : k < wr'.heap.size := by
      rcases hk with rfl | hk | hk | hk
      · exact a1.blk.lt
      · exact own_lt a1.r1 hk
      · exact own_lt a1.r2 hk
      · exact own_lt a1.r3 hk
    rcases a3 k hk with h | h
    · exact ⟨(h2 k h).1, hlt, (h2 k h).2.2⟩
    · exact ⟨by omega, hlt, by omega⟩
  · rintro k (hk | hk)
    · exact .inl (.inl hk)
    · rcases a3 k hk with h | h
      · exact .inl (.inr h)
      · exact .inr h

theorem both_sign {k : Int} {b : ByteArray} (h : Both w wr p q xb S M T S' M' T') (hk : u16 k) (hb : b.size ≤ maxLen) (hl : S.length ≤ 2000) :
    Calls Try.prog 11 #[.pointer (some ⟨p, 0, none⟩), .int .u16 k, .string b] wr fun e wr' => e = .returned (.int .i64 (signR S k b).1) ∧ Both w wr' p q xb (signR S k b).2 M T S' M' T' ∧ Turned (fun k => w.heap.size ≤ k ∧ k ≠ xb) wr wr' := by
  obtain ⟨s1, s2, s3, h1, h2, h3, h4⟩ := h
  exact (sign_p h3 (prB_lt h2 h4) hk hb hl).mono fun e wr' ⟨he, b1, b2⟩ => ⟨he, both_book h1 h2 h4 b1 b2⟩
theorem both_write {m : Mac} {y : Int} (h : Both w wr p q xb S M T S' M' T') (hm : macOk m) (hy : i64 y) (hl : M.length ≤ 2000) :
    Calls Try.prog 13 #[.pointer (some ⟨p, 0, none⟩), macV m, .int .i64 y] wr fun e wr' => e = .returned (.int .i64 (writeR M m y).1) ∧ Both w wr' p q xb S (writeR M m y).2 T S' M' T' ∧ Turned (fun k => w.heap.size ≤ k ∧ k ≠ xb) wr wr' := by
  obtain ⟨s1, s2, s3, h1, h2, h3, h4⟩ := h
  exact (write_p h3 (prB_lt h2 h4) hm hy hl).mono fun e wr' ⟨he, b1, b2⟩ => ⟨he, both_book h1 h2 h4 b1 b2⟩
theorem both_steal {a : Int} (h : Both w wr p q xb S M T S' M' T') (ha : u16 a) (hl : T.length < 3000) :
    Calls Try.prog 15 #[.pointer (some ⟨p, 0, none⟩), .int .u16 a] wr fun e wr' => e = .returned (.int .i64 (stealR T a).1) ∧ Both w wr' p q xb S M (stealR T a).2 S' M' T' ∧ Turned (fun k => w.heap.size ≤ k ∧ k ≠ xb) wr wr' := by
  obtain ⟨s1, s2, s3, h1, h2, h3, h4⟩ := h
  exact (steal_p h3 (prB_lt h2 h4) ha hl).mono fun e wr' ⟨he, b1, b2⟩ => ⟨he, both_book h1 h2 h4 b1 b2⟩
theorem both_rsign {k : Int} {b : ByteArray} (h : Both w wr p q xb S M T S' M' T') (hk : u16 k) (hl : S'.length ≤ 2000) :
    Calls Try.prog 12 #[.pointer (some ⟨q, 0, none⟩), .int .u16 k, .string b] wr fun e wr' => e = .returned (.int .i64 (signR S' k b).1) ∧ Both w wr' p q xb S M T (signR S' k b).2 M' T' ∧ Turned (fun k => w.heap.size ≤ k ∧ k ≠ xb) wr wr' := by
  obtain ⟨s1, s2, s3, h1, h2, h3, h4⟩ := h
  exact (rsign_any q s1 s2 s3 S' M' T' k b wr hk hl h1).mono fun e wr' ⟨he, b1⟩ => ⟨he, both_ref h2 h3 h4 b1⟩
theorem both_rwrite {m : Mac} {y : Int} (h : Both w wr p q xb S M T S' M' T') (hm : macOk m) (hl : M'.length ≤ 2000) :
    Calls Try.prog 14 #[.pointer (some ⟨q, 0, none⟩), macV m, .int .i64 y] wr fun e wr' => e = .returned (.int .i64 (writeR M' m y).1) ∧ Both w wr' p q xb S M T S' (writeR M' m y).2 T' ∧ Turned (fun k => w.heap.size ≤ k ∧ k ≠ xb) wr wr' := by
  obtain ⟨s1, s2, s3, h1, h2, h3, h4⟩ := h
  exact (rwrite_any q s1 s2 s3 S' M' T' m y wr hl h1 hm).mono fun e wr' ⟨he, b1⟩ => ⟨he, both_ref h2 h3 h4 b1⟩
theorem both_rsteal {a : Int} (h : Both w wr p q xb S M T S' M' T') (ha : u16 a) (hl : T'.length ≤ 2000) :
    Calls Try.prog 16 #[.pointer (some ⟨q, 0, none⟩), .int .u16 a] wr fun e wr' => e = .returned (.int .i64 (stealR T' a).1) ∧ Both w wr' p q xb S M T S' M' (stealR T' a).2 ∧ Turned (fun k => w.heap.size ≤ k ∧ k ≠ xb) wr wr' := by
  obtain ⟨s1, s2, s3, h1, h2, h3, h4⟩ := h
  exact (rsteal_any q s1 s2 s3 S' M' T' a wr ha hl h1).mono fun e wr' ⟨he, b1⟩ => ⟨he, both_ref h2 h3 h4 b1⟩

/-! ### what they tell -/
theorem both_len (h : Both w wr p q xb S M T S' M' T') :
    Calls Try.prog 18 #[.pointer (some ⟨p, 0, none⟩)] wr fun e w' => e = .returned (.tuple #[.int .i64 (S.length : Int), .int .i64 (M.length : Int), .int .i64 (T.length : Int)]) ∧ Kept wr w' := by
  obtain ⟨s1, s2, s3, h1, h2, h3, h4⟩ := h
  exact len_p h3
theorem both_signed {k : Int} {b : ByteArray} (h : Both w wr p q xb S M T S' M' T') (hk : u16 k) (hb : b.size ≤ maxLen) :
    Calls Try.prog 19 #[.pointer (some ⟨p, 0, none⟩), .int .u16 k, .string b] wr fun e wr' => e = .returned (.bool (hasB (k, b) S)) ∧ Kept wr wr' := by
  obtain ⟨s1, s2, s3, h1, h2, h3, h4⟩ := h
  exact signed_p h3 hk hb
theorem both_stolen {k : Int} (h : Both w wr p q xb S M T S' M' T') (hk : u16 k) :
    Calls Try.prog 21 #[.pointer (some ⟨p, 0, none⟩), .int .u16 k] wr fun e wr' => e = .returned (.bool (hasB k T)) ∧ Kept wr wr' := by
  obtain ⟨s1, s2, s3, h1, h2, h3, h4⟩ := h
  exact stolen_p h3 hk
theorem both_rsigned {k : Int} {b : ByteArray} (h : Both w wr p q xb S M T S' M' T') (hl : S'.length ≤ 2000) :
    Calls Try.prog 20 #[.pointer (some ⟨q, 0, none⟩), .int .u16 k, .string b] wr fun e wr' => e = .returned (.bool (hasB (k, b) S')) ∧ Kept wr wr' := by
  obtain ⟨s1, s2, s3, h1, h2, h3, h4⟩ := h
  exact (rsigned_any q s1 s2 s3 S' M' T' k b wr hl h1).mono fun e w' ⟨he, hw⟩ => ⟨he, hw ▸ Turned.refl _ _⟩
theorem both_rstolen {k : Int} (h : Both w wr p q xb S M T S' M' T') (hl : T'.length ≤ 2000) :
    Calls Try.prog 22 #[.pointer (some ⟨q, 0, none⟩), .int .u16 k] wr fun e wr' => e = .returned (.bool (hasB k T')) ∧ Kept wr wr' := by
  obtain ⟨s1, s2, s3, h1, h2, h3, h4⟩ := h
  exact (rstolen_any q s1 s2 s3 S' M' T' k wr hl h1).mono fun e w' ⟨he, hw⟩ => ⟨he, hw ▸ Turned.refl _ _⟩
theorem both_wrote {a wy sq : Int} {s : ByteArray} (h : Both w wr p q xb S M T S' M' T') (hl : M.length ≤ 2000) :
    Calls Try.prog 23 #[.pointer (some ⟨p, 0, none⟩), .agg #[.int .u16 a, .int .i64 wy, .int .i64 sq, .string s]] wr fun e w' => ∃ A c, e = .returned (.slice A (wroteOf M (a, wy, sq, s)).length c) ∧ w'.ownsRow wr.heap.size 3 1 (.slice A (wroteOf M (a, wy, sq, s)).length c) (wroteOf M (a, wy, sq, s)).length ((wroteOf M (a, wy, sq, s)).map (.int .i64)) ∧ Kept wr w' := by
  obtain ⟨s1, s2, s3, h1, h2, h3, h4⟩ := h
  exact wrote_p h3 hl
theorem both_rwrote {a wy sq : Int} {s : ByteArray} (h : Both w wr p q xb S M T S' M' T') (hl : M'.length ≤ 2000) :
    Calls Try.prog 24 #[.pointer (some ⟨q, 0, none⟩), .agg #[.int .u16 a, .int .i64 wy, .int .i64 sq, .string s]] wr fun e w' => ∃ A c, e = .returned (.slice A (wroteOf M' (a, wy, sq, s)).length c) ∧ w'.ownsRow wr.heap.size 3 1 (.slice A (wroteOf M' (a, wy, sq, s)).length c) (wroteOf M' (a, wy, sq, s)).length ((wroteOf M' (a, wy, sq, s)).map (.int .i64)) ∧ Kept wr w' := by
  obtain ⟨s1, s2, s3, h1, h2, h3, h4⟩ := h
  refine (rwrote_any q s1 s2 s3 S' M' T' a wy sq s wr hl h1).mono ?_
  rintro e w' ⟨v, rfl, hown, hK⟩
  obtain ⟨A, c, rfl⟩ := own_slice hown
  exact ⟨A, c, rfl, hown, hK⟩
theorem both_bodies {k : Int} (h : Both w wr p q xb S M T S' M' T') (hl : S.length ≤ 2000) :
    Calls Try.prog 28 #[.pointer (some ⟨p, 0, none⟩), .int .u16 k] wr fun e w' => ∃ A c, e = .returned (.slice A (bodiesOf S k).length c) ∧ w'.ownsRow wr.heap.size 9 1 (.slice A (bodiesOf S k).length c) (bodiesOf S k).length ((bodiesOf S k).map .string) ∧ Kept wr w' := by
  obtain ⟨s1, s2, s3, h1, h2, h3, h4⟩ := h
  exact bodies_p h3 hl
theorem both_rbodies {k : Int} (h : Both w wr p q xb S M T S' M' T') (hl : S'.length ≤ 2000) :
    Calls Try.prog 29 #[.pointer (some ⟨q, 0, none⟩), .int .u16 k] wr fun e w' => ∃ A c, e = .returned (.slice A (bodiesOf S' k).length c) ∧ w'.ownsRow wr.heap.size 9 1 (.slice A (bodiesOf S' k).length c) (bodiesOf S' k).length ((bodiesOf S' k).map .string) ∧ Kept wr w' := by
  obtain ⟨s1, s2, s3, h1, h2, h3, h4⟩ := h
  refine (rbodies_any q s1 s2 s3 S' M' T' k wr hl h1).mono ?_
  rintro e w' ⟨v, rfl, hown, hK⟩
  obtain ⟨A, c, rfl⟩ := own_slice hown
  exact ⟨A, c, rfl, hown, hK⟩
theorem both_macs {ch : Int} (h : Both w wr p q xb S M T S' M' T') (hl : M.length ≤ 2000) (hM : ∀ x ∈ M, macOk x.1) :
    Calls Try.prog 25 #[.pointer (some ⟨p, 0, none⟩), .int .u16 ch] wr fun e w' => ∃ A c, e = .returned (.slice A (macsOf M ch).length c) ∧ w'.ownsRow 0 36 4 (.slice A (macsOf M ch).length c) (macsOf M ch).length (((macsOf M ch).map macV).flatMap (·.cells.toList)) ∧ Kept wr w' := by
  obtain ⟨s1, s2, s3, h1, h2, h3, h4⟩ := h
  exact macs_p h3 hl hM
theorem both_rmacs {ch : Int} (h : Both w wr p q xb S M T S' M' T') (hl : M'.length ≤ 2000) :
    Calls Try.prog 26 #[.pointer (some ⟨q, 0, none⟩), .int .u16 ch] wr fun e w' => ∃ A c, e = .returned (.slice A (macsOf M' ch).length c) ∧ w'.ownsRow wr.heap.size 36 4 (.slice A (macsOf M' ch).length c) (macsOf M' ch).length (((macsOf M' ch).map macV).flatMap (·.cells.toList)) ∧ Kept wr w' := by
  obtain ⟨s1, s2, s3, h1, h2, h3, h4⟩ := h
  refine (rmacs_any q s1 s2 s3 S' M' T' ch wr hl h1).mono ?_
  rintro e w' ⟨v, rfl, hown, hK⟩
  obtain ⟨A, c, rfl⟩ := own_slice hown
  exact ⟨A, c, rfl, hown, hK⟩
theorem both_cells (h : Both w wr p q xb S M T S' M' T') : ∃ A1 c1 A2 c2 A3 c3, q < wr.heap.size ∧ wr.cell? ⟨q, 0, none⟩ = some (.slice A1 S'.length c1) ∧ wr.cell? ⟨q, 1, none⟩ = some (.slice A2 M'.length c2) ∧ wr.cell? ⟨q, 2, none⟩ = some (.slice A3 T'.length c3) := by
  obtain ⟨s1, s2, s3, h1, h2, h3, h4⟩ := h
  obtain ⟨A1, c1, rfl⟩ := own_slice h1.r1
  obtain ⟨A2, c2, rfl⟩ := own_slice h1.r2
  obtain ⟨A3, c3, rfl⟩ := own_slice h1.r3
  exact ⟨A1, c1, A2, c2, A3, c3, h1.blk.lt, h1.blk.cell 0, h1.blk.cell 1, h1.blk.cell 2⟩
end
theorem signR_2000 {S : List Sig} {k : Int} {b : ByteArray} (h : S.length ≤ 2000) : (signR S k b).2.length ≤ 2000 := by
  unfold signR
  repeat' split
  all_goals first
    | exact h
    | (simp only [List.length_append, List.length_singleton]; omega)
theorem long_le {l : List Act_} {j : Nat} (hj : j < l.length) (hn : j < 200) (h : largeR l = false) : l[j].mac.2.2.2.size ≤ 200 := by
  unfold largeR at h
  rw [Bool.or_eq_false_iff] at h
  rcases Nat.lt_or_ge 200 l[j].mac.2.2.2.size with h1 | h1
  · rw [longs_mono hj hn h1] at h
    exact absurd h.1 (by simp)
  · exact h1
end Go.Proofs.Ytkldepflfomegaa
