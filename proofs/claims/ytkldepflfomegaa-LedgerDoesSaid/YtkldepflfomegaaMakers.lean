/- The law LedgerMakers: the walk. -/
import Derived.Test.YtkldepflfomegaaSteals
namespace Go.Proofs.Ytkldepflfomegaa
open Go.RowKit
open Go.Maps (Keyed)

/-! ### plain -/
def pairs (m : Mac) (ks : List Int) : List Made := ks.map fun k => (m, k)
theorem hasB_pairs (m : Mac) (ks : List Int) (k : Int) : hasB (m, k) (pairs m ks) = hasB k ks := by
  rw [Bool.eq_iff_iff, hasB_iff, hasB_iff]
  simp [pairs]
theorem wrote_pairs (m : Mac) (ks : List Int) : wroteOf (pairs m ks) m = ks := by
  unfold wroteOf pairs
  induction ks with
  | nil => rfl
  | cons x xs ih => simp at ih ⊢; exact ih
theorem macs_pairs (m : Mac) : ∀ (ks : List Int) (acc : List Mac), m ∈ acc → (pairs m ks).foldl (macsStep m.1) acc = acc
  | [], _, _ => rfl
  | x :: xs, acc, h => by
    have e : macsStep m.1 acc (m, x) = acc := by unfold macsStep; rw [if_pos rfl, if_pos (hasB_iff.2 h)]
    show ((pairs m xs).foldl (macsStep m.1) (macsStep m.1 acc (m, x))) = acc
    rw [e]
    exact macs_pairs m xs acc h
theorem macs_one (m : Mac) {ks : List Int} (h : ks ≠ []) : macsOf (pairs m ks) m.1 = [m] := by
  cases ks with
  | nil => exact absurd rfl h
  | cons x xs =>
    show ((pairs m xs).foldl (macsStep m.1) (macsStep m.1 [] (m, x))) = [m]
    have e : macsStep m.1 [] (m, x) = [m] := by unfold macsStep; rw [if_pos rfl, if_neg (by simp [hasB])]; rfl
    rw [e]
    exact macs_pairs m xs [m] (by simp)
def newK (ks : List Int) (k : Int) : List Int := if hasB k ks then ks else ks ++ [k]
theorem newK_ne (ks : List Int) (k : Int) : newK ks k ≠ [] := by
  unfold newK
  split
  · rename_i h
    rw [hasB_iff] at h
    intro e
    rw [e] at h
    simp at h
  · simp
theorem newK_len (ks : List Int) (k : Int) : (newK ks k).length ≤ ks.length + 1 := by
  unfold newK
  split <;> simp
theorem write_pairs {m : Mac} {ks : List Int} {k : Int} (h : writeOk m.1 m.2.1 m.2.2.1 k) (hl : ks.length < 2000) : writeR (pairs m ks) m k = (0, pairs m (newK ks k)) := by
  have h' : m.1 / 8192 = 2 ∧ (m.2.1 = 0 ∨ m.2.1 = 1) ∧ 0 ≤ m.2.2.1 ∧ 0 ≤ k := h
  unfold writeR newK
  rw [if_pos h', hasB_pairs]
  split
  · rfl
  · rw [if_pos (by simpa [pairs] using hl)]
    simp [pairs]
theorem hasB_take_succ {ks : List Int} {k : Int} {i : Nat} (hi : i < ks.length) : hasB k (ks.take (i + 1)) = (hasB k (ks.take i) || (ks[i] == k)) := by
  unfold hasB
  rw [List.take_succ_eq_append_getElem hi, List.any_append]
  simp
  rfl

theorem ints_flat (xs : List Int) : (xs.map (Value.int .i64)).flatMap (·.cells.toList) = xs.map (Value.int .i64) := by
  induction xs with
  | nil => rfl
  | cons x xs ih => simp only [List.map_cons, List.flatMap_cons, ih]; rfl
theorem reads_ints {w : World} {base c : Nat} {A : Option Addr} {xs : List Int} (h : w.ownsRow base 3 1 (.slice A xs.length c) xs.length (xs.map (.int .i64))) : ReadsT (.int .i64) w w.heap.size 1 A xs :=
  ReadsT.of_own (e := 3) (c := c) (base := base) (fun _ => rfl) (by rw [ints_flat]; exact h)

def byteV (b : Int) : Value := .int .u8 b

/-- What the loop holds: a book that was told of one mac alone, and the list of who told it. -/
def MakersAt (w wr : World) (mb p : Nat) (m : Mac) (ks : List Int) (v : Value) : Prop :=
  ∃ F : Nat → Prop, BookAt wr F p [] (pairs m ks) [] ∧ wr.ownsRow w.heap.size 3 1 v ks.length (ks.map (.int .i64)) ∧ Blk wr mb 36 #[.int .u16 m.1, .int .i64 m.2.1, .int .i64 m.2.2.1, .string m.2.2.2] ∧
    (∀ k, F k → w.heap.size ≤ k ∧ k < wr.heap.size ∧ k ≠ mb ∧ v.ownBlock ≠ some k) ∧ Turned (From w.heap.size) w wr ∧ w.heap.size ≤ mb

theorem MakersAt.kept {w wr wr' : World} {mb p : Nat} {m : Mac} {ks : List Int} {v : Value} (h : MakersAt w wr mb p m ks v) (hK : Kept wr wr') : MakersAt w wr' mb p m ks v := by
  obtain ⟨F, h1, h2, h3, h4, h5, h6⟩ := h
  exact ⟨F, h1.kept hK, own_turned h2 hK (fun _ _ h => h), h3.turned hK (fun h => h), fun k hk => ⟨(h4 k hk).1, Nat.lt_of_lt_of_le (h4 k hk).2.1 hK.size, (h4 k hk).2.2⟩, h5.then_ hK (fun _ _ h => h.elim), h6⟩

theorem MakersAt.cells {w wr : World} {mb p : Nat} {a wy sq : Int} {s : ByteArray} {ks : List Int} {v : Value} (h : MakersAt w wr mb p (a, wy, sq, s) ks v) :
    wr.cell? ⟨mb, 0, none⟩ = some (.int .u16 a) ∧ wr.cell? ⟨mb, 1, none⟩ = some (.int .i64 wy) ∧ wr.cell? ⟨mb, 2, none⟩ = some (.int .i64 sq) ∧ wr.cell? ⟨mb, 3, none⟩ = some (.string s) := by
  obtain ⟨F, h1, h2, h3, h4, h5, h6⟩ := h
  exact ⟨h3.cell 0, h3.cell 1, h3.cell 2, h3.cell 3⟩

/-- A write, as the loop does it. -/
theorem makers_write {w wr : World} {mb p : Nat} {m : Mac} {ks : List Int} {v : Value} {k : Int} (h : MakersAt w wr mb p m ks v) (hm : macOk m) (hk : i64 k) (hok : writeOk m.1 m.2.1 m.2.2.1 k) (hl : ks.length < 2000) :
    Calls Try.prog 13 #[.pointer (some ⟨p, 0, none⟩), .agg #[.int .u16 m.1, .int .i64 m.2.1, .int .i64 m.2.2.1, .string m.2.2.2], .int .i64 k] wr fun e wr' => e = .returned (.int .i64 0) ∧
      ∃ F : Nat → Prop, BookAt wr' F p [] (pairs m (newK ks k)) [] ∧ wr'.ownsRow w.heap.size 3 1 v ks.length (ks.map (.int .i64)) ∧ Blk wr' mb 36 #[.int .u16 m.1, .int .i64 m.2.1, .int .i64 m.2.2.1, .string m.2.2.2] ∧
        (∀ k, F k → w.heap.size ≤ k ∧ k < wr'.heap.size ∧ k ≠ mb ∧ v.ownBlock ≠ some k) ∧ Turned (From w.heap.size) w wr' ∧ w.heap.size ≤ mb := by
  obtain ⟨F, h1, h2, h3, h4, h5, h6⟩ := h
  refine (write_any F p [] _ [] m k wr hm hk (by simp [pairs]; omega) h1).mono ?_
  rintro e wr' ⟨he, b1, b2⟩
  rw [write_pairs hok hl] at he b1
  have hsz := b2.size
  refine ⟨he, Grow F wr wr', b1, own_turned h2 b2 (fun g hg hF => (h4 g hF).2.2.2 hg), h3.turned b2 (fun hF => (h4 mb hF).2.2.1 rfl), ?_, h5.then_ b2 (fun i _ hF => (h4 i hF).1), h6⟩
  rintro i (hi | hi)
  · exact ⟨(h4 i hi).1, by have := (h4 i hi).2.1; omega, (h4 i hi).2.2⟩
  · have := h5.size
    have := h3.lt
    exact ⟨by omega, hi.2, by omega, fun e => by have := own_lt h2 e; omega⟩

theorem makers_append {w w3 w5 : World} {mb p : Nat} {m : Mac} {ks : List Int} {v : Value} {kk : Int} {F : Nat → Prop} {O : Obj} {gg cap : Nat} (r1 : BookAt w3 F p [] (pairs m (ks ++ [kk])) []) (r2 : w3.ownsRow w.heap.size 3 1 v ks.length (ks.map (.int .i64)))
    (r3 : Blk w3 mb 36 #[.int .u16 m.1, .int .i64 m.2.1, .int .i64 m.2.2.1, .string m.2.2.2]) (r4 : ∀ k, F k → w.heap.size ≤ k ∧ k < w3.heap.size ∧ k ≠ mb ∧ v.ownBlock ≠ some k) (r5 : Turned (From w.heap.size) w w3) (r6 : w.heap.size ≤ mb)
    (hg : (w3.alloc O).grownBy w5 v.ownBlock) (hO : w5.ownsRow w.heap.size 3 1 (.slice (some ⟨gg, 0, none⟩) (ks.length + 1) cap) (ks.length + 1) (ks.map (.int .i64) ++ [.int .i64 kk])) (hat : v.ownBlock = some gg ∨ gg = w3.heap.size + 1) :
    MakersAt w w5 mb p m (ks ++ [kk]) (.slice (some ⟨gg, 0, none⟩) (ks.length + 1) cap) := by
  have hT : Turned (fun i => v.ownBlock = some i) w3 w5 := ((Turned.refl _ w3).alloc O).grown hg (fun k h _ => h)
  refine ⟨F, r1.turned hT (fun k hk h => (r4 k hk).2.2.2 h), by simpa using hO, r3.turned hT (own_blk_ne r2 r3 (by decide)), ?_, r5.then_ hT (fun i _ h => own_base r2 h), r6⟩
  intro k hk
  obtain ⟨a1, a2, a3, a4⟩ := r4 k hk
  refine ⟨a1, Nat.lt_of_lt_of_le a2 hT.size, a3, fun e => ?_⟩
  have : gg = k := by simpa [Value.ownBlock] using e
  subst this
  rcases hat with h | h
  · exact a4 h
  · omega

theorem makers_wrote {w wr : World} {mb p : Nat} {a wy sq : Int} {s : ByteArray} {ks : List Int} {v : Value} (h : MakersAt w wr mb p (a, wy, sq, s) ks v) (hl : ks.length ≤ 2000) :
    Calls Try.prog 23 #[.pointer (some ⟨p, 0, none⟩), .agg #[.int .u16 a, .int .i64 wy, .int .i64 sq, .string s]] wr fun e wr' => ∃ A c, e = .returned (.slice A ks.length c) ∧ wr'.ownsRow wr.heap.size 3 1 (.slice A ks.length c) ks.length (ks.map (.int .i64)) ∧ Kept wr wr' := by
  obtain ⟨F, h1, h2, h3, h4, h5, h6⟩ := h
  refine (wrote_any F p [] _ [] a wy sq s wr (by simpa [pairs] using hl) h1).mono ?_
  rintro e wr' ⟨v', rfl, h7, h8⟩
  rw [wrote_pairs] at h7
  obtain ⟨A, c, rfl⟩ := own_slice h7
  exact ⟨A, c, rfl, h7, h8⟩
theorem makers_macs {w wr : World} {mb p : Nat} {a wy sq : Int} {s : ByteArray} {ks : List Int} {v : Value} (h : MakersAt w wr mb p (a, wy, sq, s) ks v) (hl : ks.length ≤ 2000) (hne : ks ≠ []) (hm : macOk (a, wy, sq, s)) :
    Calls Try.prog 25 #[.pointer (some ⟨p, 0, none⟩), .int .u16 a] wr fun e wr' => ∃ g c, e = .returned (.slice (some ⟨g, 0, none⟩) 1 c) ∧ g < wr'.heap.size ∧ (wr'.cell? ⟨g, 0, none⟩ = some (.int .u16 a) ∧ wr'.cell? ⟨g, 1, none⟩ = some (.int .i64 wy) ∧ wr'.cell? ⟨g, 2, none⟩ = some (.int .i64 sq) ∧ wr'.cell? ⟨g, 3, none⟩ = some (.string s)) ∧ Kept wr wr' := by
  obtain ⟨F, h1, h2, h3, h4, h5, h6⟩ := h
  refine (macs_any F p [] _ [] a wr (by simpa [pairs] using hl) (by
    intro x hx
    obtain ⟨k, _, rfl⟩ := List.mem_map.1 hx
    exact hm) h1).mono ?_
  rintro e wr' ⟨v', rfl, h7, _, h8⟩
  rw [show macsOf (pairs (a, wy, sq, s) ks) a = [(a, wy, sq, s)] from macs_one (a, wy, sq, s) hne] at h7
  obtain ⟨A, c, rfl⟩ := own_slice h7
  obtain ⟨g, rfl, hg, hc⟩ := own_at h7 (j := 0) (by simp)
  exact ⟨g, c, rfl, hg, ⟨hc 0 (by decide), hc 1 (by decide), hc 2 (by decide), hc 3 (by decide)⟩, h8⟩
end Go.Proofs.Ytkldepflfomegaa
