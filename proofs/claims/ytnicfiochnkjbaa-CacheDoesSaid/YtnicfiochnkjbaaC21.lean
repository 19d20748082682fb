/- An answer that stays: plain facts; the cache's methods at an act, with no bound on the uses. -/
import Derived.Test.YtnicfiochnkjbaaC20
namespace Go.Proofs.Ytnicfiochnkjbaa
open Go.RowKit
section
variable {X : List Ent} {q q' : Qu} {E x : Ent} {room ob ver turn t : Int}
theorem find_drop (h : q' ≠ q) : findX q (dropX q' X) = findX q X := by
  induction X with
  | nil => rfl
  | cons y X ih =>
    unfold findX dropX at *
    by_cases hy : y.q = q'
    · have h1 : quEq y.q q = false := by
        rw [Bool.eq_false_iff, Ne, quEq_iff]
        exact fun e => h (by rw [← e]; exact hy.symm)
      rw [List.filter_cons, quEq_iff.2 hy, List.find?_cons, h1]
      exact ih
    · have h2 : quEq y.q q' = false := by
        rw [Bool.eq_false_iff, Ne, quEq_iff]
        exact hy
      rw [List.filter_cons, h2]
      simp only [Bool.not_false, if_true, List.find?_cons]
      split
      · rfl
      · exact ih
theorem find_snoc (h : findX q X = some E) : findX q (X ++ [x]) = some E := by
  unfold findX at *
  rw [List.find?_append, h]
  rfl
theorem find_snoc_self (h : ∀ y ∈ X, y.q ≠ x.q) : findX x.q (X ++ [x]) = some x := by
  unfold findX
  rw [List.find?_append, List.find?_eq_none.2 (fun y hy e => h y hy (quEq_iff.1 e))]
  simp [quEq_iff.2 (rfl : x.q = x.q)]
/-- Another one is put, with room left. -/
theorem keep_put (h : findX q X = some E) (hn : x.q ≠ q) (hr : (X.length : Int) < room) : findX q (putX room X x) = some E ∧ (putX room X x).length ≤ X.length + 1 := by
  have h1 := dropX_len x.q X
  have h2 : trimX room (dropX x.q X) = dropX x.q X := by
    unfold trimX
    rw [if_neg (by omega)]
  unfold putX
  rw [h2]
  refine ⟨find_snoc (by rw [find_drop hn]; exact h), ?_⟩
  rw [List.length_append, List.length_singleton]
  omega
theorem keep_get (h : findX q X = some E) (hn : q' ≠ q) : findX q (getX q' ver turn t X) = some E := by
  unfold getX
  split
  · split
    · split
      · exact find_snoc (by rw [find_drop hn]; exact h)
      · rw [find_drop hn]
        exact h
    · exact h
  · exact h
theorem keep_forget (h : findX q X = some E) (hn : q.obj ≠ ob) : findX q (forgetX ob X) = some E := by
  rw [forget_find hn]
  exact h
/-- The first one put. -/
theorem put_first (hr : 1 ≤ room) : putX room [] x = [x] := by
  unfold putX trimX dropX
  rw [List.filter_nil, if_neg (by simp; omega)]
  rfl
theorem find_one : findX x.q [x] = some x := find_snoc_self (X := []) (fun y hy => by cases hy)
/-- It is told before its time, and not at it. -/
theorem keep_hit (hs : setR q.who = true) (h : findX q X = some E) (hv : E.ver = ver) (ht : E.turn = turn) (hl : t < E.till) : hitX q ver turn t X = some E := by
  unfold hitX
  rw [hs, if_pos rfl, h]
  simp only
  unfold fresh
  rw [decide_eq_true ⟨hv, ht, hl⟩]
  rfl
theorem keep_after (hs : setR q.who = true) (h : findX q X = some E) (hv : E.ver = ver) (ht : E.turn = turn) (hl : t < E.till) : findX q (getX q ver turn t X) = some E := by
  rw [getX_hit (keep_hit hs h hv ht hl)]
  obtain ⟨_, rfl⟩ := findX_some h
  exact find_snoc_self (fun y hy => (dropX_mem.1 hy).2)
theorem keep_over (h : findX q X = some E) (hl : E.till ≤ t) : hitX q ver turn t X = none := by
  unfold hitX
  split
  · rw [h]
    simp only
    unfold fresh
    rw [decide_eq_false (by omega)]
    rfl
  · rfl
end
section
variable {w wr : World} {p mb n : Nat} {room : Int} {X : List Ent} {x : CAct} {t : Int}
theorem put_actk (h : CacheP w wr p mb room n X) (hroom : 1 ≤ room) (hn : (X.length : Int) < room) (hX : X.length ≤ 1000000) (hx : cactOk w x) (hs : Small x) :
    Calls Try.prog 16 #[.pointer (some ⟨p, 0, none⟩), .agg x.key, .int .i64 x.a, .int .i64 x.t] wr fun e w' =>
      e = .returned (.int .i64 (putE x.who x.a)) ∧ CacheP w w' p mb room (n + 1) (putXE room X x.ent) ∧ Turned (CFoot p mb) wr w' :=
  put_pk h hroom (.inr hn) hX hs.len hs.words (hx.reads.kept h.since) hx.ob hx.op
theorem get_actk (h : CacheP w wr p mb room n X) (hx : cactOk w x) (hs : Small x) (t : Int) :
    Calls Try.prog 18 #[.pointer (some ⟨p, 0, none⟩), .agg x.key, .int .i64 t] wr fun e w' =>
      e = .returned (.tuple #[.int .i64 (toldR (hitX x.q x.ver x.turn t X)), .bool (hitX x.q x.ver x.turn t X).isSome]) ∧ CacheP w w' p mb room (n + 1) (getX x.q x.ver x.turn t X) ∧ Turned (CFoot p mb) wr w' :=
  get_pk h hs.len hs.words (hx.reads.kept h.since) hx.ob hx.op
end
end Go.Proofs.Ytnicfiochnkjbaa
