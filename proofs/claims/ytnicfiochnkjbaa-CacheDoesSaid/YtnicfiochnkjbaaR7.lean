/- The cache beside the document's: what the law holds. -/
import Derived.Test.YtnicfiochnkjbaaR6
namespace Go.Proofs.Ytnicfiochnkjbaa
open Go.RowKit
def keyC (x : CAct) (A5 : Option Addr) (c5 : Nat) : Array Value := #[.int .i64 x.ob, .int .i64 x.op, .slice A5 x.who.length c5, .int .i64 x.ver, .int .i64 x.turn]
def zKey : Array Value := #[.int .i64 0, .int .i64 0, .slice none 0 0, .int .i64 0, .int .i64 0]
theorem key_one (x : CAct) : x.key.all (·.oneCell') = true := by simp [CAct.key, Value.oneCell']
/-- What a round holds: the act, the law's own key, its own copy of who. -/
structure LawB (W : World) (gx gy : Nat) (x : CAct) (A5 : Option Addr) (c5 base : Nat) (L : List Value) : Prop where
  act : ActAt W gx x
  key : Blk W gy 25 (keyC x A5 c5)
  row : W.ownsRow base 51 1 (.slice A5 x.who.length c5) x.who.length L
section
variable {w wr W W' : World} {p mb n gx gy r base c5 : Nat} {room : Int} {X : List Ent} {x : CAct} {A5 : Option Addr} {I : List RItem} {L : List Value}
theorem CacheP.foot_not (h : CacheP w wr p mb room n X) {k : Nat} {t : TypeId} {cs : Array Value} (hb : Blk wr k t cs) (ht : t ≠ 90) : ¬ CFoot p mb k := by
  obtain ⟨uses, Y, g1, _⟩ := h
  obtain ⟨l, hl, _⟩ := g1.map
  rintro (h | h)
  · subst h
    exact absurd rfl (Blk.ne_ hb g1.blk ht)
  · exact hl.blk_ne hb h
theorem LawB.turned {S : Nat → Prop} (h : LawB W gx gy x A5 c5 base L) (hT : Turned S W W') (hS : ∀ k t cs, Blk W k t cs → (t = 36 ∨ t = 25 ∨ t = 51) → ¬ S k) : LawB W' gx gy x A5 c5 base L :=
  ⟨h.act.turned hT (hS _ _ _ h.act (.inl rfl)), h.key.turned hT (hS _ _ _ h.key (.inr (.inl rfl))), own_turned h.row hT (fun g hg => by
    obtain ⟨_, cs, hb⟩ := own_blk h.row hg
    exact hS _ _ _ hb (.inr (.inr rfl)))⟩
theorem LawB.kept (h : LawB W gx gy x A5 c5 base L) (hT : Kept W W') : LawB W' gx gy x A5 c5 base L := h.turned hT (fun _ _ _ _ _ h => h)
theorem LawB.cfoot (h : LawB W gx gy x A5 c5 base L) (hC : CacheP w W p mb room n X) (hT : Turned (CFoot p mb) W W') : LawB W' gx gy x A5 c5 base L :=
  h.turned hT (fun k t cs hb ht => hC.foot_not hb (by rcases ht with rfl | rfl | rfl <;> decide))
theorem LawB.rfoot (h : LawB W gx gy x A5 c5 base L) (hT : Turned (RFoot base W) W W') : LawB W' gx gy x A5 c5 base L :=
  h.turned hT (fun k t cs hb ht => RFoot.not hb (by rcases ht with rfl | rfl | rfl <;> decide) (by rcases ht with rfl | rfl | rfl <;> decide))
theorem RefIs.cfoot (h : RefIs W base r room I) (hC : CacheP w W p mb room n X) (hT : Turned (CFoot p mb) W W') : RefIs W' base r room I :=
  h.beside hT (fun k t cs _ hb ht => hC.foot_not hb (by rcases ht with rfl | rfl <;> decide)) (fun y hy g cs _ _ hb => hC.foot_not hb (by decide))
theorem CacheP.blocks (h : CacheP w W p mb room n X) : (∃ cs, Blk W p 90 cs) ∧ ∃ es clock, W.heap[mb]? = some (.map es clock) := by
  obtain ⟨uses, Y, g1, _⟩ := h
  obtain ⟨l, hl, _⟩ := g1.map
  obtain ⟨es, clock, hb, _⟩ := hl
  exact ⟨⟨_, g1.blk⟩, es, clock, hb⟩
theorem CacheP.rfoot (h : CacheP w W p mb room n X) (hT : Turned (RFoot w.heap.size W) W W') : CacheP w W' p mb room n X := by
  obtain ⟨⟨cs, h1⟩, es, clock, h2⟩ := h.blocks
  refine h.beside hT (RFoot.not h1 (by decide) (by decide)) (fun ⟨_, t, cs', hb, _⟩ => ?_) (fun k hk => hk.1)
  unfold Blk at hb
  rw [h2] at hb
  cases hb
theorem LawB.reads (h : LawB W gx gy x A5 c5 base (x.who.map Value.string)) : ReadsT Value.string W W.heap.size 1 A5 x.who := ReadsT.of_one (V := Value.string) (fun _ => rfl) h.row
theorem put_law (hC : CacheP w W p mb room n X) (hB : LawB W gx gy x A5 c5 base (x.who.map Value.string)) (hroom : 1 ≤ room) (hn : n ≤ 9000000000000000000) (hX : X.length ≤ 1000000) (hx : cactOk w x) (hs : Small x) :
    Calls Try.prog 16 #[.pointer (some ⟨p, 0, none⟩), .agg #[.int .i64 x.ob, .int .i64 x.op, .slice A5 x.who.length c5, .int .i64 x.ver, .int .i64 x.turn], .int .i64 x.a, .int .i64 x.t] W fun e w' =>
      e = .returned (.int .i64 (putE x.who x.a)) ∧ CacheP w w' p mb room (n + 1) (putXE room X x.ent) ∧ Turned (CFoot p mb) W w' :=
  put_p hC hroom hn hX hs.len hs.words hB.reads hx.ob hx.op
theorem get_law (hC : CacheP w W p mb room n X) (hB : LawB W gx gy x A5 c5 base (x.who.map Value.string)) (hn : n ≤ 9000000000000000000) (hx : cactOk w x) (hs : Small x) (t : Int) :
    Calls Try.prog 18 #[.pointer (some ⟨p, 0, none⟩), .agg #[.int .i64 x.ob, .int .i64 x.op, .slice A5 x.who.length c5, .int .i64 x.ver, .int .i64 x.turn], .int .i64 t] W fun e w' =>
      e = .returned (.tuple #[.int .i64 (toldR (hitX x.q x.ver x.turn t X)), .bool (hitX x.q x.ver x.turn t X).isSome]) ∧ CacheP w w' p mb room (n + 1) (getX x.q x.ver x.turn t X) ∧ Turned (CFoot p mb) W w' :=
  get_p hC hn hs.len hs.words hB.reads hx.ob hx.op
theorem put_ref (hF : RefIs W base r room I) (hk : (I.map RItem.ent).Pairwise (fun a b => a.q ≠ b.q)) (hI : I.length ≤ 1000) (hroom : 1 ≤ room) (hx : cactOk w x) (hs : Small x) (hK : Kept w W) :
    Calls Try.prog 21 #[.pointer (some ⟨r, 0, none⟩), .agg #[.int .i64 x.ob, .int .i64 x.op, .slice x.A x.who.length x.c, .int .i64 x.ver, .int .i64 x.turn], .int .i64 x.a, .int .i64 x.t] W fun e w' =>
      e = .returned (.int .i64 (putE x.who x.a)) ∧ ∃ I', RefIs w' base r room I' ∧ I'.map RItem.ent = putXE room (I.map RItem.ent) x.ent ∧ Turned (RFoot base W) W w' ∧ ∀ y ∈ I', y ∈ I ∨ ∀ g, y.ownB = some g → W.heap.size ≤ g :=
  put18_any hF hk hI hroom x.ob x.op x.ver x.turn x.a x.t x.A x.c x.who hs.len hs.words (hx.reads.kept hK)
theorem get_ref (hF : RefIs W base r room I) (hk : (I.map RItem.ent).Pairwise (fun a b => a.q ≠ b.q)) (hI : I.length ≤ 1000) (hx : cactOk w x) (hs : Small x) (hK : Kept w W) :
    Calls Try.prog 23 #[.pointer (some ⟨r, 0, none⟩), .agg #[.int .i64 x.ob, .int .i64 x.op, .slice x.A x.who.length x.c, .int .i64 x.ver, .int .i64 x.turn], .int .i64 x.t] W fun e w' =>
      e = .returned (.tuple #[.int .i64 (toldR (hitX x.q x.ver x.turn x.t (I.map RItem.ent))), .bool (hitX x.q x.ver x.turn x.t (I.map RItem.ent)).isSome]) ∧ ∃ I', RefIs w' base r room I' ∧ I'.map RItem.ent = getX x.q x.ver x.turn x.t (I.map RItem.ent) ∧ Turned (RFoot base W) W w' ∧ ∀ y ∈ I', y ∈ I :=
  get18_any hF hk hI x.ob x.op x.ver x.turn x.t x.A x.c x.who hs.len (hx.reads.kept hK)
theorem RefIs.cleared (h : RefIs W base r room I) : RefIs (W.setCell ⟨r, 0, none⟩ (.slice none 0 0)) base r room [] ∧ Turned (RFoot base W) W (W.setCell ⟨r, 0, none⟩ (.slice none 0 0)) := by
  obtain ⟨v, hB, _⟩ := h.row
  exact ⟨⟨h.ge, ⟨_, hB.set_ 0 _, ⟨by simp [cellsOf], .inl ⟨rfl, rfl⟩⟩⟩, fun x hx => (by cases hx), fun x hx => (by cases hx)⟩, (Turned.refl _ W).setCell (p := ⟨r, 0, none⟩) (fun _ => ⟨h.ge, _, _, hB, .inl rfl⟩) _⟩
/-- A row's element is overwritten. -/
theorem own_over {E g j N c : Nat} {u : Value} (h : W.ownsRow base E 1 (.slice (some ⟨g, 0, none⟩) N c) N L) : (W.setCell ⟨g, j, none⟩ u).ownsRow base E 1 (.slice (some ⟨g, 0, none⟩) N c) N (L.set j u) := by
  obtain ⟨h1, h2⟩ := h
  refine ⟨by rw [List.length_set]; exact h1, ?_⟩
  rcases h2 with ⟨h2, _⟩ | ⟨g', cap, cur, hv, hg0, hh, hnc, hm, hsz, ht⟩
  · cases h2
  · have hv' := hv
    injection hv' with hA _ hc
    injection hA with hA
    injection hA with hg
    subst hg hc
    refine .inr ⟨g, c, cur.setIfInBounds j u, rfl, hg0, Blk.set_ (w := W) (t := E) hh j u, hnc, hm, by simpa using hsz, ?_⟩
    rw [Array.toList_setIfInBounds, List.take_set, ht]
end
end Go.Proofs.Ytnicfiochnkjbaa
