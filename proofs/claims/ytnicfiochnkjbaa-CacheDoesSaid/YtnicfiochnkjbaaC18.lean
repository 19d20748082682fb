/- The acts of the cache's laws; plain facts on answers. -/
import Derived.Test.YtnicfiochnkjbaaC17
namespace Go.Proofs.Ytnicfiochnkjbaa
open Go.RowKit

structure CAct where
  kind : Int
  ob : Int
  op : Int
  A : Option Addr
  c : Nat
  who : List ByteArray
  ver : Int
  turn : Int
  a : Int
  t : Int
def CAct.cs (x : CAct) : Array Value := #[.int .i64 x.kind, .int .i64 x.ob, .int .i64 x.op, .slice x.A x.who.length x.c, .int .i64 x.ver, .int .i64 x.turn, .int .i64 x.a, .int .i64 x.t]
def CAct.key (x : CAct) : Array Value := #[.int .i64 x.ob, .int .i64 x.op, .slice x.A x.who.length x.c, .int .i64 x.ver, .int .i64 x.turn]
def cactV (x : CAct) : Value := .agg x.cs
def CAct.q (x : CAct) : Qu := ⟨x.ob, x.op, x.who⟩
def CAct.ent (x : CAct) : Ent := ⟨x.q, x.a, x.ver, x.turn, x.t⟩
/-- An act that can be read in w. -/
structure cactOk (w : World) (x : CAct) : Prop where
  kind : i64 x.kind
  ob : i64 x.ob
  op : i64 x.op
  ver : i64 x.ver
  turn : i64 x.turn
  a : i64 x.a
  t : i64 x.t
  len : x.who.length ≤ maxLen
  words : ∀ s ∈ x.who, s.size ≤ maxLen
  reads : ReadsT Value.string w w.heap.size 1 x.A x.who
/-- A variable that holds an act. -/
def ActAt (W : World) (g : Nat) (x : CAct) : Prop := Blk W g 36 x.cs
section
variable {W W' : World} {g : Nat} {x : CAct}
theorem ActAt.turned {S : Nat → Prop} (h : ActAt W g x) (hT : Turned S W W') (hn : ¬ S g) : ActAt W' g x := Blk.turned h hT hn
theorem ActAt.lt (h : ActAt W g x) : g < W.heap.size := Blk.lt h
theorem ActAt.c0 (h : ActAt W g x) : W.cell? ⟨g, 0, none⟩ = some (.int .i64 x.kind) := Blk.cell h 0
theorem ActAt.c1 (h : ActAt W g x) : W.cell? ⟨g, 1, none⟩ = some (.int .i64 x.ob) := Blk.cell h 1
theorem ActAt.c2 (h : ActAt W g x) : W.cell? ⟨g, 2, none⟩ = some (.int .i64 x.op) := Blk.cell h 2
theorem ActAt.c3 (h : ActAt W g x) : W.cell? ⟨g, 3, none⟩ = some (.slice x.A x.who.length x.c) := Blk.cell h 3
theorem ActAt.c4 (h : ActAt W g x) : W.cell? ⟨g, 4, none⟩ = some (.int .i64 x.ver) := Blk.cell h 4
theorem ActAt.c5 (h : ActAt W g x) : W.cell? ⟨g, 5, none⟩ = some (.int .i64 x.turn) := Blk.cell h 5
theorem ActAt.c6 (h : ActAt W g x) : W.cell? ⟨g, 6, none⟩ = some (.int .i64 x.a) := Blk.cell h 6
theorem ActAt.c7 (h : ActAt W g x) : W.cell? ⟨g, 7, none⟩ = some (.int .i64 x.t) := Blk.cell h 7
theorem act8_cells {b o j : Nat} (hc : ∀ i, i < 8 → W.cell? ⟨b, o + j * 8 + i, none⟩ = (cactV x).cells[i]?) :
    W.rangeAt b (o + j * 8) x.cs.toList := fun i v hv => by
  have hi : i < 8 := by
    have := (List.getElem?_eq_some_iff.1 hv).1
    simpa [CAct.cs] using this
  rw [hc i hi]
  simpa [cactV, Value.cells] using hv
/-- The key inside. -/
theorem ActAt.key (h : ActAt W g x) : W.rangeAt g 1 x.key.toList := fun i v hv => by
  have hi : i < 5 := by
    have := (List.getElem?_eq_some_iff.1 hv).1
    simpa [CAct.key] using this
  have h1 := Blk.cell h (1 + i)
  rw [h1]
  have : i = 0 ∨ i = 1 ∨ i = 2 ∨ i = 3 ∨ i = 4 := by omega
  rcases this with rfl | rfl | rfl | rfl | rfl <;> exact hv
end
theorem info_cact : (Try.prog.info? 36).map (·.size) = some 8 := by kernel_rfl
theorem cact_one (x : CAct) : x.cs.all (·.oneCell') = true := by simp [CAct.cs, Value.oneCell']
theorem ReadsT.kept_of {α : Type} {V : α → Value} {w w' : World} {size : Nat} {A : Option Addr} {xs : List α} (h : ReadsT V w w.heap.size size A xs) (hK : Kept w w') : ReadsT V w' w'.heap.size size A xs := h.kept hK

/-! ### plain facts -/
section
variable {X : List Ent} {q : Qu} {x : Ent} {room ver turn t : Int}
theorem CacheP.keys {w wr : World} {p mb n : Nat} (h : CacheP w wr p mb room n X) : X.Pairwise (fun a b => a.q ≠ b.q) := by
  obtain ⟨uses, Y, g1, rfl, _⟩ := h
  rw [List.pairwise_map]
  exact g1.keys
theorem dropX_mem : x ∈ dropX q X ↔ x ∈ X ∧ x.q ≠ q := by
  unfold dropX
  rw [List.mem_filter, Bool.not_eq_true', Bool.eq_false_iff, Ne, quEq_iff]
theorem dropX_none (h : ∀ y ∈ X, y.q ≠ q) : dropX q X = X := by
  unfold dropX
  rw [List.filter_eq_self]
  intro y hy
  rw [Bool.not_eq_true', Bool.eq_false_iff, Ne, quEq_iff]
  exact h y hy
theorem dropX_ge : ∀ {X : List Ent}, X.Pairwise (fun a b => a.q ≠ b.q) → X.length ≤ (dropX q X).length + 1
  | [], _ => by simp
  | y :: X, h => by
    obtain ⟨h1, h2⟩ := List.pairwise_cons.1 h
    by_cases hq : y.q = q
    · have hd : dropX q (y :: X) = X := by
        have : dropX q (y :: X) = dropX q X := by
          unfold dropX
          rw [List.filter_cons, quEq_iff.2 hq]
          rfl
        rw [this]
        exact dropX_none (fun z hz e => h1 z hz (hq.trans e.symm))
      rw [hd, List.length_cons]
      omega
    · have hd : dropX q (y :: X) = y :: dropX q X := by
        have : quEq y.q q = false := by rw [Bool.eq_false_iff, Ne, quEq_iff]; exact hq
        unfold dropX
        rw [List.filter_cons, this]
        rfl
      have := dropX_ge h2
      rw [hd, List.length_cons, List.length_cons]
      omega
theorem findX_some (h : findX q X = some x) : x ∈ X ∧ x.q = q :=
  ⟨List.mem_of_find?_eq_some h, quEq_iff.1 (List.find?_some (p := fun x : Ent => quEq x.q q) h)⟩
theorem findX_none (h : findX q X = none) : ∀ y ∈ X, y.q ≠ q := fun y hy e => List.find?_eq_none.1 h y hy (quEq_iff.2 e)
theorem dropX_lt (h : findX q X = some x) : (dropX q X).length < X.length := by
  obtain ⟨h1, h2⟩ := findX_some h
  unfold dropX
  exact List.length_filter_lt_length_iff_exists.2 ⟨x, h1, by rw [quEq_iff.2 h2]; simp⟩
theorem hitX_some {e : Ent} (h : hitX q ver turn t X = some e) : setR q.who = true ∧ findX q X = some e ∧ fresh e ver turn t = true := by
  unfold hitX at h
  split at h
  · rename_i hs
    refine ⟨hs, ?_⟩
    rcases hf : findX q X with _ | y
    · rw [hf] at h
      cases h
    · rw [hf] at h
      simp only at h
      split at h
      · rename_i hfr
        injection h with h
        subst h
        exact ⟨rfl, hfr⟩
      · cases h
  · cases h
theorem getX_hit {e : Ent} (h : hitX q ver turn t X = some e) : getX q ver turn t X = dropX q X ++ [e] := by
  obtain ⟨h1, h2, h3⟩ := hitX_some h
  unfold getX
  rw [h1, if_pos rfl, h2]
  simp only [h3, if_true]
theorem getX_hit_len {e : Ent} (hk : X.Pairwise (fun a b => a.q ≠ b.q)) (h : hitX q ver turn t X = some e) : (getX q ver turn t X).length = X.length := by
  obtain ⟨h1, h2, h3⟩ := hitX_some h
  rw [getX_hit h, List.length_append, List.length_singleton]
  have := dropX_lt h2
  have := dropX_ge (q := q) hk
  omega
theorem getX_len (hk : X.Pairwise (fun a b => a.q ≠ b.q)) : (getX q ver turn t X).length ≤ X.length := by
  rcases hh : hitX q ver turn t X with _ | e
  · unfold getX
    unfold hitX at hh
    split
    · rename_i hs
      rw [hs, if_pos rfl] at hh
      rcases hf : findX q X with _ | y
      · exact Nat.le_refl _
      · rw [hf] at hh
        simp only at hh ⊢
        split at hh
        · cases hh
        · rename_i hfr
          rw [if_neg hfr]
          exact dropX_len q X
    · exact Nat.le_refl _
  · rw [getX_hit_len hk hh]
    exact Nat.le_refl _
theorem trimX_notin (h : ∀ y ∈ X, y.q ≠ q) : ∀ y ∈ trimX room X, y.q ≠ q := fun y hy => by
  unfold trimX at hy
  split at hy
  · exact h y (List.mem_of_mem_tail hy)
  · exact h y hy
/-- Put twice is put once. -/
theorem putX_twice (hr : 1 ≤ room) (h : (X.length : Int) ≤ room) : putX room (putX room X x) x = putX room X x := by
  have hl := putX_len (x := x) hr h
  have hn : ∀ y ∈ trimX room (dropX x.q X), y.q ≠ x.q := trimX_notin (fun y hy => (dropX_mem.1 hy).2)
  unfold putX at hl ⊢
  generalize trimX room (dropX x.q X) = Z at hl hn
  rw [List.length_append, List.length_singleton] at hl
  have hd : dropX x.q (Z ++ [x]) = Z := by
    unfold dropX
    rw [List.filter_append]
    have h1 : Z.filter (fun y => !quEq y.q x.q) = Z := dropX_none hn
    rw [h1]
    simp [quEq_iff.2 (rfl : x.q = x.q)]
  rw [hd]
  unfold trimX
  rw [if_neg (by omega)]
theorem putX_ge (hr : 1 ≤ room) (h : (X.length : Int) ≤ room) (hk : X.Pairwise (fun a b => a.q ≠ b.q)) : X.length ≤ (putX room X x).length ∧ (putX room X x).length ≤ X.length + 1 := by
  unfold putX trimX
  have h1 := dropX_len x.q X
  have h2 := dropX_ge (q := x.q) hk
  rw [List.length_append, List.length_singleton]
  split
  · rw [List.length_tail]
    omega
  · omega
end
end Go.Proofs.Ytnicfiochnkjbaa
