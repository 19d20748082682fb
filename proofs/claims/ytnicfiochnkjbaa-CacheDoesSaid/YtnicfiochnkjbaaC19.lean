/- The cache's methods at an act. -/
import Derived.Test.YtnicfiochnkjbaaC18
namespace Go.Proofs.Ytnicfiochnkjbaa
open Go.RowKit
def zAct : Array Value := #[.int .i64 0, .int .i64 0, .int .i64 0, .slice none 0 0, .int .i64 0, .int .i64 0, .int .i64 0, .int .i64 0]
/-- An act that is small enough to be looked at. -/
structure Small (x : CAct) : Prop where
  len : x.who.length ≤ 1000
  words : ∀ s ∈ x.who, s.size ≤ 1000000
theorem small_of {x : CAct} (h : largeR 600 x.who = false) : Small x := by
  obtain ⟨h1, h2⟩ := largeR_false h
  exact ⟨by omega, fun s hs => by have := h2 s hs; omega⟩
section
variable {w wr : World} {p mb n : Nat} {room : Int} {X : List Ent} {x : CAct} {t : Int}
theorem put_act (h : CacheP w wr p mb room n X) (hroom : 1 ≤ room) (hn : n ≤ 9000000000000000000) (hX : X.length ≤ 1000000) (hx : cactOk w x) (hs : Small x) :
    Calls Try.prog 16 #[.pointer (some ⟨p, 0, none⟩), .agg x.key, .int .i64 x.a, .int .i64 x.t] wr fun e w' =>
      e = .returned (.int .i64 (putE x.who x.a)) ∧ CacheP w w' p mb room (n + 1) (putXE room X x.ent) ∧ Turned (CFoot p mb) wr w' :=
  put_p h hroom hn hX hs.len hs.words (hx.reads.kept h.since) hx.ob hx.op
theorem get_act (h : CacheP w wr p mb room n X) (hn : n ≤ 9000000000000000000) (hx : cactOk w x) (hs : Small x) (t : Int) :
    Calls Try.prog 18 #[.pointer (some ⟨p, 0, none⟩), .agg x.key, .int .i64 t] wr fun e w' =>
      e = .returned (.tuple #[.int .i64 (toldR (hitX x.q x.ver x.turn t X)), .bool (hitX x.q x.ver x.turn t X).isSome]) ∧ CacheP w w' p mb room (n + 1) (getX x.q x.ver x.turn t X) ∧ Turned (CFoot p mb) wr w' :=
  get_p h hn hs.len hs.words (hx.reads.kept h.since) hx.ob hx.op
theorem large_act (hK : Kept w wr) (hx : cactOk w x) :
    Calls Try.prog 15 #[.slice x.A x.who.length x.c] wr fun e w' => e = .returned (.bool (largeR 600 x.who)) ∧ wr = w' :=
  large600_any x.A x.c _ x.who wr hx.len hx.words (hx.reads.kept hK)
end
end Go.Proofs.Ytnicfiochnkjbaa
