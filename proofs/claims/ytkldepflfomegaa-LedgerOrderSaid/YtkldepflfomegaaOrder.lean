/- The law LedgerOrder: plain facts and the words of its loop. -/
import Derived.Test.YtkldepflfomegaaSteals
namespace Go.Proofs.Ytkldepflfomegaa
open Go.RowKit
open Go.Maps (Keyed)

def newB (bs : List ByteArray) (s : ByteArray) : List ByteArray := if hasB s bs then bs else bs ++ [s]
theorem newB_len (bs : List ByteArray) (s : ByteArray) : (newB bs s).length ≤ bs.length + 1 := by
  unfold newB
  split <;> simp
theorem sign_code0 {S : List Sig} {k : Int} {s : ByteArray} (hk : k / 8192 = 1) (hl : S.length < 2000) : (signR S k s).1 = 0 := by
  unfold signR
  rw [if_pos hk]
  split
  · rfl
  · rfl
theorem hasB_bodies (S : List Sig) (k : Int) (s : ByteArray) : hasB (k, s) S = hasB s (bodiesOf S k) := by
  rw [Bool.eq_iff_iff, hasB_iff, hasB_iff]
  simp only [bodiesOf, List.mem_map, List.mem_filter, decide_eq_true_eq]
  constructor
  · exact fun h => ⟨(k, s), ⟨h, rfl⟩, rfl⟩
  · rintro ⟨⟨a, b⟩, ⟨h, e⟩, e2⟩
    simp at e e2
    subst e e2
    exact h
theorem sign_bodies {S : List Sig} {k : Int} {s : ByteArray} (hk : k / 8192 = 1) (hl : S.length < 2000) : bodiesOf (signR S k s).2 k = newB (bodiesOf S k) s := by
  unfold signR newB
  rw [if_pos hk, hasB_bodies]
  split
  · rfl
  · simp [bodiesOf]
theorem sign_other {S : List Sig} {k k' : Int} {s : ByteArray} (hne : k' ≠ k) : bodiesOf (signR S k' s).2 k = bodiesOf S k := by
  unfold signR
  repeat' split
  all_goals simp [bodiesOf, hne]
theorem hasB_take_succ' {ks : List ByteArray} {k : ByteArray} {i : Nat} (hi : i < ks.length) : hasB k (ks.take (i + 1)) = (hasB k (ks.take i) || (ks[i].toList == k.toList)) := by
  unfold hasB
  rw [List.take_succ_eq_append_getElem hi, List.any_append, bytes_beq]
  simp

/-- What the loop holds: a book, and the list of what one key signed. -/
def OrderAt (w wr : World) (p : Nat) (S : List Sig) (ws : List ByteArray) (v : Value) : Prop :=
  ∃ F : Nat → Prop, BookAt wr F p S [] [] ∧ wr.ownsRow w.heap.size 9 1 v ws.length (ws.map .string) ∧ (∀ i, F i → w.heap.size ≤ i ∧ i < wr.heap.size ∧ v.ownBlock ≠ some i) ∧ Turned (From w.heap.size) w wr

theorem OrderAt.kept {w wr wr' : World} {p : Nat} {S : List Sig} {ws : List ByteArray} {v : Value} (h : OrderAt w wr p S ws v) (hK : Kept wr wr') : OrderAt w wr' p S ws v := by
  obtain ⟨F, h1, h2, h4, h5⟩ := h
  exact ⟨F, h1.kept hK, own_turned h2 hK (fun _ _ h => h), fun k hk => ⟨(h4 k hk).1, Nat.lt_of_lt_of_le (h4 k hk).2.1 hK.size, (h4 k hk).2.2⟩, h5.then_ hK (fun _ _ h => h.elim)⟩

theorem order_sign {w wr : World} {p : Nat} {S : List Sig} {ws : List ByteArray} {v : Value} {k : Int} {s : ByteArray} (h : OrderAt w wr p S ws v) (hk : u16 k) (hk1 : k / 8192 = 1) (hs : s.size ≤ maxLen) (hl : S.length < 2000) :
    Calls Try.prog 11 #[.pointer (some ⟨p, 0, none⟩), .int .u16 k, .string s] wr fun e wr' => e = .returned (.int .i64 0) ∧ OrderAt w wr' p (signR S k s).2 ws v := by
  obtain ⟨F, h1, h2, h4, h5⟩ := h
  refine (sign_any F p S _ _ k s wr hk hs (by omega) h1).mono ?_
  rintro e wr' ⟨he, b1, b2⟩
  rw [sign_code0 hk1 hl] at he
  have hsz := b2.size
  refine ⟨he, Grow F wr wr', b1, own_turned h2 b2 (fun g hg hF => (h4 g hF).2.2 hg), ?_, h5.then_ b2 (fun i _ hF => (h4 i hF).1)⟩
  rintro i (hi | hi)
  · exact ⟨(h4 i hi).1, by have := (h4 i hi).2.1; omega, (h4 i hi).2.2⟩
  · have := h5.size
    exact ⟨by omega, hi.2, fun e => by have := own_lt h2 e; omega⟩

theorem order_append {w w3 w5 : World} {p : Nat} {S : List Sig} {ws : List ByteArray} {v : Value} {s : ByteArray} {O : Obj} {gg cap : Nat} (h : OrderAt w w3 p S ws v)
    (hg : (w3.alloc O).grownBy w5 v.ownBlock) (hO : w5.ownsRow w.heap.size 9 1 (.slice (some ⟨gg, 0, none⟩) (ws.length + 1) cap) (ws.length + 1) (ws.map .string ++ [.string s])) (hat : v.ownBlock = some gg ∨ gg = w3.heap.size + 1) :
    OrderAt w w5 p S (ws ++ [s]) (.slice (some ⟨gg, 0, none⟩) (ws.length + 1) cap) := by
  obtain ⟨F, r1, r2, r4, r5⟩ := h
  have hT : Turned (fun i => v.ownBlock = some i) w3 w5 := ((Turned.refl _ w3).alloc O).grown hg (fun k h _ => h)
  refine ⟨F, r1.turned hT (fun k hk h => (r4 k hk).2.2 h), by simpa using hO, ?_, r5.then_ hT (fun i _ h => own_base r2 h)⟩
  intro k hk
  obtain ⟨a1, a2, a4⟩ := r4 k hk
  refine ⟨a1, Nat.lt_of_lt_of_le a2 hT.size, fun e => ?_⟩
  have : gg = k := by simpa [Value.ownBlock] using e
  subst this
  rcases hat with h | h
  · exact a4 h
  · omega

theorem order_bodies {w wr : World} {p : Nat} {S : List Sig} {ws : List ByteArray} {v : Value} {k : Int} (h : OrderAt w wr p S ws v) (hl : S.length ≤ 2000) (hw : bodiesOf S k = ws) :
    Calls Try.prog 28 #[.pointer (some ⟨p, 0, none⟩), .int .u16 k] wr fun e wr' => ∃ A c, e = .returned (.slice A ws.length c) ∧ wr'.ownsRow wr.heap.size 9 1 (.slice A ws.length c) ws.length (ws.map .string) ∧ Kept wr wr' := by
  obtain ⟨F, h1, h2, h4, h5⟩ := h
  refine (bodies_any F p S _ _ k wr hl h1).mono ?_
  rintro e wr' ⟨v', rfl, h7, h8⟩
  rw [hw] at h7
  obtain ⟨A, c, rfl⟩ := own_slice h7
  exact ⟨A, c, rfl, h7, h8⟩
/-- .. beside a block of another slice, which may be written. -/
def OrderG (w wr : World) (p : Nat) (S : List Sig) (ws : List ByteArray) (v : Value) (g : Nat) : Prop :=
  ∃ F : Nat → Prop, BookAt wr F p S [] [] ∧ wr.ownsRow w.heap.size 9 1 v ws.length (ws.map .string) ∧ (∀ i, F i → w.heap.size ≤ i ∧ i < wr.heap.size ∧ v.ownBlock ≠ some i) ∧ Turned (From w.heap.size) w wr ∧ ¬ F g ∧ v.ownBlock ≠ some g ∧ w.heap.size ≤ g
theorem order_with {w wr w3 : World} {p g : Nat} {S : List Sig} {ws : List ByteArray} {v : Value} (h : OrderAt w wr p S ws v) (hK : Kept wr w3) (hg : wr.heap.size ≤ g) : OrderG w w3 p S ws v g := by
  obtain ⟨F, h1, h2, h4, h5⟩ := h
  have h5s := h5.size
  exact ⟨F, h1.kept hK, own_turned h2 hK (fun _ _ h => h), fun k hk => ⟨(h4 k hk).1, Nat.lt_of_lt_of_le (h4 k hk).2.1 hK.size, (h4 k hk).2.2⟩, h5.then_ hK (fun _ _ h => h.elim), fun hF => by have := (h4 g hF).2.1; omega, fun e => by have := own_lt h2 e; omega, by omega⟩
theorem OrderG.at_ {w wr : World} {p g : Nat} {S : List Sig} {ws : List ByteArray} {v : Value} (h : OrderG w wr p S ws v g) : OrderAt w wr p S ws v := by
  obtain ⟨F, h1, h2, h4, h5, _⟩ := h
  exact ⟨F, h1, h2, h4, h5⟩
theorem OrderG.kept {w wr wr' : World} {p g : Nat} {S : List Sig} {ws : List ByteArray} {v : Value} (h : OrderG w wr p S ws v g) (hK : Kept wr wr') : OrderG w wr' p S ws v g := by
  obtain ⟨F, h1, h2, h4, h5, h6⟩ := h
  exact ⟨F, h1.kept hK, own_turned h2 hK (fun _ _ h => h), fun k hk => ⟨(h4 k hk).1, Nat.lt_of_lt_of_le (h4 k hk).2.1 hK.size, (h4 k hk).2.2⟩, h5.then_ hK (fun _ _ h => h.elim), h6⟩
theorem OrderG.store {w wr : World} {p g : Nat} {S : List Sig} {ws : List ByteArray} {v : Value} (h : OrderG w wr p S ws v g) (i : Nat) (u : Value) : OrderG w (wr.setCell ⟨g, i, none⟩ u) p S ws v g := by
  obtain ⟨F, h1, h2, h4, h5, h6, h7, h8⟩ := h
  have hT : Turned (fun k => k = g) wr (wr.setCell ⟨g, i, none⟩ u) := (Turned.refl (fun k => k = g) wr).setCell (p := ⟨g, i, none⟩) (fun _ => rfl) u
  exact ⟨F, h1.turned hT (fun k hk e => h6 (e ▸ hk)), own_turned h2 hT (fun k hk e => h7 (e ▸ hk)), fun k hk => ⟨(h4 k hk).1, Nat.lt_of_lt_of_le (h4 k hk).2.1 hT.size, (h4 k hk).2.2⟩, h5.then_ hT (fun k _ e => by unfold From; omega), h6, h7, h8⟩
theorem OrderAt.size {w wr : World} {p : Nat} {S : List Sig} {ws : List ByteArray} {v : Value} (h : OrderAt w wr p S ws v) : w.heap.size ≤ wr.heap.size := by
  obtain ⟨F, h1, h2, h4, h5⟩ := h
  exact h5.size
theorem OrderAt.reads {w wr : World} {p c : Nat} {S : List Sig} {ws : List ByteArray} {A : Option Addr} (h : OrderAt w wr p S ws (.slice A ws.length c)) : ReadsT .string wr wr.heap.size 1 A ws := by
  obtain ⟨F, h1, h2, h4, h5⟩ := h
  exact reads_strs h2
end Go.Proofs.Ytkldepflfomegaa
