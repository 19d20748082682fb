/- What is told was put: plain facts. -/
import Derived.Test.YtnicfiochnkjbaaC22
namespace Go.Proofs.Ytnicfiochnkjbaa
/-- An act that leaves an answer where it is. -/
structure Spares (z : CAct) (e : Ent) : Prop where
  clear : z.kind ≠ 3
  forget : z.kind = 2 → z.ob ≠ e.q.obj
  put : z.kind = 0 → z.q = e.q → ¬ (0 ≤ z.a ∧ z.a ≤ 2)
/-- The act that put an answer: nothing behind it touched the answer. -/
structure Src (l : List CAct) (j i0 : Nat) (e : Ent) : Prop where
  lt : i0 < j
  act : ∃ y, l[i0]? = some y ∧ y.kind = 0 ∧ y.ent = e ∧ putE y.who y.a = 0
  rest : ∀ i z, i0 < i → i < j → l[i]? = some z → Spares z e
def Hist (l : List CAct) (j : Nat) (X : List Ent) : Prop := ∀ e ∈ X, ∃ i0, Src l j i0 e
section
variable {l : List CAct} {j : Nat} {X X' : List Ent} {x : CAct} {room ver turn t : Int} {q : Qu}
theorem putE_zero {who : List ByteArray} {a : Int} : putE who a = 0 ↔ setR who = true ∧ (0 ≤ a ∧ a ≤ 2) := by
  unfold putE
  rcases setR who with _ | _
  · simp
  · simp only [if_true, true_and]
    constructor
    · intro h
      split at h
      · omega
      · cases h
    · intro h
      rw [if_pos (by omega)]
theorem Src.set {i0 : Nat} {e : Ent} (h : Src l j i0 e) : setR e.q.who = true := by
  obtain ⟨y, _, _, rfl, h2⟩ := h.act
  exact (putE_zero.1 h2).1
theorem Src.next {i0 : Nat} {e : Ent} (h : Src l j i0 e) (hx : l[j]? = some x) (hs : Spares x e) : Src l (j + 1) i0 e := by
  refine ⟨by have := h.lt; omega, h.act, fun i z h1 h2 h3 => ?_⟩
  by_cases hi : i = j
  · subst hi
    rw [hx] at h3
    injection h3 with h3
    subst h3
    exact hs
  · exact h.rest i z h1 (by omega) h3
theorem Hist.nil : Hist l j [] := fun e he => by cases he
theorem Hist.sub (h : Hist l j X) (hx : l[j]? = some x) (hs : ∀ e ∈ X', e ∈ X) (hk : ∀ e ∈ X', Spares x e) : Hist l (j + 1) X' := fun e he => by
  obtain ⟨i0, hi⟩ := h e (hs e he)
  exact ⟨i0, hi.next hx (hk e he)⟩
theorem Hist.put (h : Hist l j X) (hx : l[j]? = some x) (hk : x.kind = 0) : Hist l (j + 1) (putXE room X x.ent) := by
  unfold putXE
  split
  · rename_i hp
    intro e he
    unfold putX at he
    rcases List.mem_append.1 he with he | he
    · have he' : e ∈ dropX x.q X := by
        unfold trimX at he
        split at he
        · exact List.mem_of_mem_tail he
        · exact he
      obtain ⟨h1, h2⟩ := dropX_mem.1 he'
      obtain ⟨i0, hi⟩ := h e h1
      exact ⟨i0, hi.next hx ⟨by omega, by omega, fun _ e' => absurd e'.symm h2⟩⟩
    · rw [List.mem_singleton.1 he]
      exact ⟨j, ⟨by omega, ⟨x, hx, hk, rfl, hp⟩, fun i z h1 h2 => by omega⟩⟩
  · rename_i hp
    intro e he
    obtain ⟨i0, hi⟩ := h e he
    refine ⟨i0, hi.next hx ⟨by omega, by omega, fun _ e' ha => hp (putE_zero.2 ⟨?_, ha⟩)⟩⟩
    have := hi.set
    rw [← e'] at this
    exact this
theorem Hist.get (h : Hist l j X) (hx : l[j]? = some x) (hk : x.kind = 1) : Hist l (j + 1) (getX q ver turn t X) := by
  refine h.sub hx (fun e he => ?_) (fun e he => ⟨by omega, by omega, by omega⟩)
  unfold getX at he
  split at he
  · split at he
    · rename_i y hf
      split at he
      · rcases List.mem_append.1 he with he | he
        · exact (dropX_mem.1 he).1
        · rw [List.mem_singleton.1 he]
          exact (findX_some hf).1
      · exact (dropX_mem.1 he).1
    · exact he
  · exact he
theorem Hist.forget (h : Hist l j X) (hx : l[j]? = some x) (hk : x.kind = 2) : Hist l (j + 1) (forgetX x.ob X) :=
  h.sub hx (fun e he => (forgetX_mem.1 he).1) (fun e he => ⟨by omega, fun _ e' => (forgetX_mem.1 he).2 e'.symm, by omega⟩)
theorem Hist.other (h : Hist l j X) (hx : l[j]? = some x) (h0 : x.kind ≠ 0) (h2 : x.kind ≠ 2) (h3 : x.kind ≠ 3) : Hist l (j + 1) X :=
  h.sub hx (fun _ he => he) (fun _ _ => ⟨h3, fun h => absurd h h2, fun h => absurd h h0⟩)
/-- A hit, and who put it. -/
theorem Hist.hit {e : Ent} (h : Hist l j X) (hh : hitX q ver turn t X = some e) : ∃ i0, Src l j i0 e ∧ e.q = q ∧ e.ver = ver ∧ e.turn = turn ∧ t < e.till := by
  obtain ⟨_, h2, h3⟩ := hitX_some hh
  obtain ⟨h4, h5⟩ := findX_some h2
  obtain ⟨i0, hi⟩ := h e h4
  unfold fresh at h3
  obtain ⟨g1, g2, g3⟩ := of_decide_eq_true h3
  exact ⟨i0, hi, h5, g1, g2, g3⟩
/-- One act back. -/
theorem Src.back {i0 r : Nat} {e : Ent} {y : CAct} (h : Src l j i0 e) (hi : i0 < r + 1) (hr : r < j) (hy : l[r]? = some y) :
    y.kind ≠ 3 ∧ (y.kind = 2 → y.ob ≠ e.q.obj) ∧ (y.kind = 0 ∧ y.q = e.q ∧ 0 ≤ y.a ∧ y.a ≤ 2 → y.ent = e) ∧ (¬ (y.kind = 0 ∧ y.q = e.q ∧ 0 ≤ y.a ∧ y.a ≤ 2) → i0 < r) := by
  by_cases hir : i0 = r
  · subst hir
    obtain ⟨z, h1, h2, h3, h4⟩ := h.act
    rw [hy] at h1
    injection h1 with h1
    subst h1
    refine ⟨by omega, by omega, fun _ => h3, fun hn => absurd ⟨h2, ?_, (putE_zero.1 h4).2⟩ hn⟩
    rw [← h3]
    rfl
  · have hs := h.rest r y (by omega) hr hy
    exact ⟨hs.clear, hs.forget, fun ⟨g1, g2, g3⟩ => absurd g3 (hs.put g1 g2), fun _ => by omega⟩
/-- What the walk holds in region 31. -/
theorem acts_held {w5 W : World} {gx gy : Nat} {x y : CAct} (hX : ActAt w5 gx x) (hY : ActAt w5 gy y) (hk : Kept w5 W) :
    Kept w5 W ∧ W.cell? ⟨gx, 1, none⟩ = some (.int .i64 x.ob) ∧ W.cell? ⟨gx, 2, none⟩ = some (.int .i64 x.op) ∧ W.cell? ⟨gx, 3, none⟩ = some (.slice x.A x.who.length x.c) ∧ W.cell? ⟨gx, 4, none⟩ = some (.int .i64 x.ver) ∧ W.cell? ⟨gx, 5, none⟩ = some (.int .i64 x.turn) ∧
    W.cell? ⟨gy, 0, none⟩ = some (.int .i64 y.kind) ∧ W.cell? ⟨gy, 1, none⟩ = some (.int .i64 y.ob) ∧ W.cell? ⟨gy, 2, none⟩ = some (.int .i64 y.op) ∧ W.cell? ⟨gy, 3, none⟩ = some (.slice y.A y.who.length y.c) ∧ W.cell? ⟨gy, 4, none⟩ = some (.int .i64 y.ver) ∧ W.cell? ⟨gy, 5, none⟩ = some (.int .i64 y.turn) ∧ W.cell? ⟨gy, 6, none⟩ = some (.int .i64 y.a) := by
  have h1 := hX.turned hk (fun h => h)
  have h2 := hY.turned hk (fun h => h)
  exact ⟨hk, h1.c1, h1.c2, h1.c3, h1.c4, h1.c5, h2.c0, h2.c1, h2.c2, h2.c3, h2.c4, h2.c5, h2.c6⟩
end
end Go.Proofs.Ytnicfiochnkjbaa
