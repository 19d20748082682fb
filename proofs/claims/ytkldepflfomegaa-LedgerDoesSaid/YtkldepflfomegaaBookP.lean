/- A book beside blocks that it doesn't take: the operations, in one form. -/
import Derived.Test.YtkldepflfomegaaSteals
namespace Go.Proofs.Ytkldepflfomegaa
open Go.RowKit
open Go.Maps (Keyed)

/-- A book that lies in what has come since w, and takes none of the blocks Pr. -/
def BookP (w wr : World) (p : Nat) (S : List Sig) (M : List Made) (T : List Int) (Pr : Nat → Prop) : Prop :=
  ∃ F : Nat → Prop, BookAt wr F p S M T ∧ (∀ k, F k → w.heap.size ≤ k ∧ k < wr.heap.size ∧ ¬ Pr k) ∧ Turned (From w.heap.size) w wr

section
variable {w wr wr' : World} {p : Nat} {S : List Sig} {M : List Made} {T : List Int} {Pr Pr' : Nat → Prop}
theorem BookP.size (h : BookP w wr p S M T Pr) : w.heap.size ≤ wr.heap.size := by
  obtain ⟨F, h1, h2, h3⟩ := h
  exact h3.size
theorem BookP.since (h : BookP w wr p S M T Pr) : Turned (From w.heap.size) w wr := by
  obtain ⟨F, h1, h2, h3⟩ := h
  exact h3
theorem BookP.kept (h : BookP w wr p S M T Pr) (hK : Kept wr wr') : BookP w wr' p S M T Pr := by
  obtain ⟨F, h1, h2, h3⟩ := h
  exact ⟨F, h1.kept hK, fun k hk => ⟨(h2 k hk).1, Nat.lt_of_lt_of_le (h2 k hk).2.1 hK.size, (h2 k hk).2.2⟩, h3.then_ hK (fun _ _ h => h.elim)⟩
/-- What has come since is none of its blocks. -/
theorem BookP.protect (h : BookP w wr p S M T Pr) (hK : Kept wr wr') (hP : ∀ k, Pr' k → Pr k ∨ wr.heap.size ≤ k) : BookP w wr' p S M T Pr' := by
  obtain ⟨F, h1, h2, h3⟩ := h
  exact ⟨F, h1.kept hK, fun k hk => ⟨(h2 k hk).1, Nat.lt_of_lt_of_le (h2 k hk).2.1 hK.size, fun hp => (hP k hp).elim (h2 k hk).2.2 (fun h => by have := (h2 k hk).2.1; omega)⟩, h3.then_ hK (fun _ _ h => h.elim)⟩
theorem BookP.fewer (h : BookP w wr p S M T Pr) (hP : ∀ k, Pr' k → Pr k) : BookP w wr p S M T Pr' := by
  obtain ⟨F, h1, h2, h3⟩ := h
  exact ⟨F, h1, fun k hk => ⟨(h2 k hk).1, (h2 k hk).2.1, fun hp => (h2 k hk).2.2 (hP k hp)⟩, h3⟩
/-- What turns besides. -/
theorem BookP.beside {U : Nat → Prop} (h : BookP w wr p S M T Pr) (hT : Turned U wr wr') (hU : ∀ k, U k → Pr k ∧ w.heap.size ≤ k) : BookP w wr' p S M T Pr := by
  obtain ⟨F, h1, h2, h3⟩ := h
  exact ⟨F, h1.turned hT (fun k hk hu => (h2 k hk).2.2 (hU k hu).1), fun k hk => ⟨(h2 k hk).1, Nat.lt_of_lt_of_le (h2 k hk).2.1 hT.size, (h2 k hk).2.2⟩, h3.then_ hT (fun k _ hu => (hU k hu).2)⟩
theorem BookP.new {w1 : World} (hK1 : Kept w w1) (hB : BookAt wr (fun k => k = w1.heap.size) w1.heap.size S M T) (hK2 : Kept w1 wr) (hs : wr.heap.size = w1.heap.size + 1) : BookP w wr w1.heap.size S M T (fun _ => False) := by
  have := hK1.size
  exact ⟨_, hB, fun k hk => ⟨by omega, by omega, fun h => h⟩, (hK1.then_ hK2 (fun _ _ h => h)).mono (fun _ _ h => h.elim)⟩

theorem grow_p {F : Nat → Prop} (h2 : ∀ k, F k → w.heap.size ≤ k ∧ k < wr.heap.size ∧ ¬ Pr k) (hsz : w.heap.size ≤ wr.heap.size) (hP : ∀ k, Pr k → k < wr.heap.size) (hT : Turned F wr wr') : ∀ k, Grow F wr wr' k → w.heap.size ≤ k ∧ k < wr'.heap.size ∧ ¬ Pr k := by
  have := hT.size
  rintro k (hk | hk)
  · exact ⟨(h2 k hk).1, by have := (h2 k hk).2.1; omega, (h2 k hk).2.2⟩
  · exact ⟨by omega, hk.2, fun hp => by have := hP k hp; omega⟩

theorem sign_p {k : Int} {b : ByteArray} (h : BookP w wr p S M T Pr) (hP : ∀ k, Pr k → k < wr.heap.size) (hk : u16 k) (hb : b.size ≤ maxLen) (hl : S.length ≤ 2000) :
    Calls Try.prog 11 #[.pointer (some ⟨p, 0, none⟩), .int .u16 k, .string b] wr fun e wr' => e = .returned (.int .i64 (signR S k b).1) ∧ BookP w wr' p (signR S k b).2 M T Pr ∧ Turned (fun k => w.heap.size ≤ k ∧ ¬ Pr k) wr wr' := by
  have hsz := h.size
  obtain ⟨F, h1, h2, h3⟩ := h
  exact (sign_any F p S M T k b wr hk hb hl h1).mono fun e wr' ⟨he, b1, b2⟩ => ⟨he, ⟨_, b1, grow_p h2 hsz hP b2, h3.then_ b2 (fun i _ hF => (h2 i hF).1)⟩, b2.mono (fun i _ hF => ⟨(h2 i hF).1, (h2 i hF).2.2⟩)⟩
theorem write_p {m : Mac} {y : Int} (h : BookP w wr p S M T Pr) (hP : ∀ k, Pr k → k < wr.heap.size) (hm : macOk m) (hy : i64 y) (hl : M.length ≤ 2000) :
    Calls Try.prog 13 #[.pointer (some ⟨p, 0, none⟩), macV m, .int .i64 y] wr fun e wr' => e = .returned (.int .i64 (writeR M m y).1) ∧ BookP w wr' p S (writeR M m y).2 T Pr ∧ Turned (fun k => w.heap.size ≤ k ∧ ¬ Pr k) wr wr' := by
  have hsz := h.size
  obtain ⟨F, h1, h2, h3⟩ := h
  exact (write_any F p S M T m y wr hm hy hl h1).mono fun e wr' ⟨he, b1, b2⟩ => ⟨he, ⟨_, b1, grow_p h2 hsz hP b2, h3.then_ b2 (fun i _ hF => (h2 i hF).1)⟩, b2.mono (fun i _ hF => ⟨(h2 i hF).1, (h2 i hF).2.2⟩)⟩
theorem steal_p {a : Int} (h : BookP w wr p S M T Pr) (hP : ∀ k, Pr k → k < wr.heap.size) (hk : u16 a) (hl : T.length < 3000) :
    Calls Try.prog 15 #[.pointer (some ⟨p, 0, none⟩), .int .u16 a] wr fun e wr' => e = .returned (.int .i64 (stealR T a).1) ∧ BookP w wr' p S M (stealR T a).2 Pr ∧ Turned (fun k => w.heap.size ≤ k ∧ ¬ Pr k) wr wr' := by
  have hsz := h.size
  obtain ⟨F, h1, h2, h3⟩ := h
  exact (steal_any F p S M T a wr hk hl h1).mono fun e wr' ⟨he, b1, b2⟩ => ⟨he, ⟨_, b1, grow_p h2 hsz hP b2, h3.then_ b2 (fun i _ hF => (h2 i hF).1)⟩, b2.mono (fun i _ hF => ⟨(h2 i hF).1, (h2 i hF).2.2⟩)⟩
theorem signed_p {k : Int} {b : ByteArray} (h : BookP w wr p S M T Pr) (hk : u16 k) (hb : b.size ≤ maxLen) :
    Calls Try.prog 19 #[.pointer (some ⟨p, 0, none⟩), .int .u16 k, .string b] wr fun e wr' => e = .returned (.bool (hasB (k, b) S)) ∧ Kept wr wr' := by
  obtain ⟨F, h1, h2, h3⟩ := h
  exact signed_any F p S M T k b wr hk hb h1
theorem stolen_p {k : Int} (h : BookP w wr p S M T Pr) (hk : u16 k) :
    Calls Try.prog 21 #[.pointer (some ⟨p, 0, none⟩), .int .u16 k] wr fun e wr' => e = .returned (.bool (hasB k T)) ∧ Kept wr wr' := by
  obtain ⟨F, h1, h2, h3⟩ := h
  exact stolen_any F p S M T k wr hk h1
theorem len_p (h : BookP w wr p S M T Pr) :
    Calls Try.prog 18 #[.pointer (some ⟨p, 0, none⟩)] wr fun e w' => e = .returned (.tuple #[.int .i64 (S.length : Int), .int .i64 (M.length : Int), .int .i64 (T.length : Int)]) ∧ Kept wr w' := by
  obtain ⟨F, h1, h2, h3⟩ := h
  exact len_any F p S M T wr h1
theorem wrote_p {a wy sq : Int} {s : ByteArray} (h : BookP w wr p S M T Pr) (hl : M.length ≤ 2000) :
    Calls Try.prog 23 #[.pointer (some ⟨p, 0, none⟩), .agg #[.int .u16 a, .int .i64 wy, .int .i64 sq, .string s]] wr fun e w' => ∃ A c, e = .returned (.slice A (wroteOf M (a, wy, sq, s)).length c) ∧ w'.ownsRow wr.heap.size 3 1 (.slice A (wroteOf M (a, wy, sq, s)).length c) (wroteOf M (a, wy, sq, s)).length ((wroteOf M (a, wy, sq, s)).map (.int .i64)) ∧ Kept wr w' := by
  obtain ⟨F, h1, h2, h3⟩ := h
  refine (wrote_any F p S M T a wy sq s wr hl h1).mono ?_
  rintro e w' ⟨v, rfl, hown, hK⟩
  obtain ⟨A, c, rfl⟩ := own_slice hown
  exact ⟨A, c, rfl, hown, hK⟩
theorem bodies_p {k : Int} (h : BookP w wr p S M T Pr) (hl : S.length ≤ 2000) :
    Calls Try.prog 28 #[.pointer (some ⟨p, 0, none⟩), .int .u16 k] wr fun e w' => ∃ A c, e = .returned (.slice A (bodiesOf S k).length c) ∧ w'.ownsRow wr.heap.size 9 1 (.slice A (bodiesOf S k).length c) (bodiesOf S k).length ((bodiesOf S k).map .string) ∧ Kept wr w' := by
  obtain ⟨F, h1, h2, h3⟩ := h
  refine (bodies_any F p S M T k wr hl h1).mono ?_
  rintro e w' ⟨v, rfl, hown, hK⟩
  obtain ⟨A, c, rfl⟩ := own_slice hown
  exact ⟨A, c, rfl, hown, hK⟩
theorem macs_p {ch : Int} (h : BookP w wr p S M T Pr) (hl : M.length ≤ 2000) (hM : ∀ x ∈ M, macOk x.1) :
    Calls Try.prog 25 #[.pointer (some ⟨p, 0, none⟩), .int .u16 ch] wr fun e w' => ∃ A c, e = .returned (.slice A (macsOf M ch).length c) ∧ w'.ownsRow 0 36 4 (.slice A (macsOf M ch).length c) (macsOf M ch).length (((macsOf M ch).map macV).flatMap (·.cells.toList)) ∧ Kept wr w' := by
  obtain ⟨F, h1, h2, h3⟩ := h
  refine (macs_any F p S M T ch wr hl hM h1).mono ?_
  rintro e w' ⟨v, rfl, hown, _, hK⟩
  obtain ⟨A, c, rfl⟩ := own_slice hown
  exact ⟨A, c, rfl, hown, hK⟩
end

/-! ### what a book holds is as it should be -/
def okS (S : List Sig) : Prop := ∀ x ∈ S, u16 x.1 ∧ x.2.size ≤ maxLen
def okM (M : List Made) : Prop := ∀ x ∈ M, macOk x.1 ∧ i64 x.2
def okT (T : List Int) : Prop := ∀ x ∈ T, u16 x
theorem okS_sign {S : List Sig} {k : Int} {b : ByteArray} (h : okS S) (hk : u16 k) (hb : b.size ≤ maxLen) : okS (signR S k b).2 := by
  unfold signR
  repeat' split
  all_goals first
    | exact h
    | (intro x hx
       rcases List.mem_append.1 hx with hx | hx
       · exact h x hx
       · rw [List.mem_singleton.1 hx]; exact ⟨hk, hb⟩)
theorem okM_write {M : List Made} {m : Mac} {y : Int} (h : okM M) (hm : macOk m) (hy : i64 y) : okM (writeR M m y).2 := by
  unfold writeR
  repeat' split
  all_goals first
    | exact h
    | (intro x hx
       rcases List.mem_append.1 hx with hx | hx
       · exact h x hx
       · rw [List.mem_singleton.1 hx]; exact ⟨hm, hy⟩)
theorem okT_steal {T : List Int} {a : Int} (h : okT T) (ha : u16 a) : okT (stealR T a).2 := by
  unfold stealR
  split
  · show okT (if hasB a T = true then T else T ++ [a])
    split
    · exact h
    · intro x hx
      rcases List.mem_append.1 hx with hx | hx
      · exact h x hx
      · rw [List.mem_singleton.1 hx]; exact ha
  · exact h
theorem stealR_len (T : List Int) (a : Int) : (stealR T a).2.length ≤ T.length + 1 := by
  unfold stealR
  split
  · show (if hasB a T = true then T else T ++ [a]).length ≤ _
    split <;> simp
  · simp
end Go.Proofs.Ytkldepflfomegaa
