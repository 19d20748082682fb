/- Words for memory that the proofs of this seat share: what has turned between two worlds, a block that is known whole, a row that is owned, a map that is known as the list of its entries. No statement of the program is proved here. -/
import Derived.WalkKit
import Derived.WalkSpells
import Derived.WalkLawsBesides
import Derived.Maps.OwnSet
import Derived.Maps.AppendAt
import Derived.Deep.Draws
import Derived.Deep.AppendLies
import Derived.Lib.Hide
namespace Go.Proofs.Ytnicfiochnkjbaa
open Go.RowKit

/-! ### what has turned -/

/-- Of the blocks of w those in S alone may have turned; others have come. -/
structure Turned (S : Nat → Prop) (w w' : World) : Prop where
  os : w'.os = w.os
  tape : w'.tape = w.tape
  output : w'.output = w.output
  size : w.heap.size ≤ w'.heap.size
  block : ∀ k, k < w.heap.size → ¬ S k → w'.heap[k]? = w.heap[k]?

section
variable {S S' : Nat → Prop} {a b c w w' : World}
theorem Turned.refl (S : Nat → Prop) (w : World) : Turned S w w := ⟨rfl, rfl, rfl, Nat.le_refl _, fun _ _ _ => rfl⟩
theorem Turned.mono (h : Turned S a b) (hs : ∀ i, i < a.heap.size → S i → S' i) : Turned S' a b :=
  ⟨h.os, h.tape, h.output, h.size, fun k hk hn => h.block k hk (fun e => hn (hs k hk e))⟩
theorem Turned.then_ (h : Turned S a b) (k : Turned S' b c) (hs : ∀ i, i < a.heap.size → S' i → S i) : Turned S a c :=
  ⟨k.os.trans h.os, k.tape.trans h.tape, k.output.trans h.output, Nat.le_trans h.size k.size,
   fun i hi hn => (k.block i (Nat.lt_of_lt_of_le hi h.size) (fun e => hn (hs i hi e))).trans (h.block i hi hn)⟩
theorem Turned.drew (h : Turned S a b) : Turned S a b.drew := ⟨h.os, h.tape, h.output, h.size, h.block⟩
theorem Turned.drewN (h : Turned S a b) (n : Nat) : Turned S a (b.drewN n) := ⟨h.os, h.tape, h.output, h.size, h.block⟩
theorem Turned.alloc (h : Turned S a b) (o : Obj) : Turned S a (b.alloc o) :=
  ⟨h.os, h.tape, h.output, Nat.le_trans h.size (by simp), fun i hi hn => (Below.heap_alloc b o i (Nat.lt_of_lt_of_le hi h.size)).trans (h.block i hi hn)⟩
theorem Turned.setCell (h : Turned S a b) {p : Addr} (hp : p.block < a.heap.size → S p.block) (u : Value) : Turned S a (b.setCell p u) :=
  ⟨h.os, h.tape, h.output, by simpa [World.setCell] using h.size, fun i hi hn => (Below.heap_setCell b p u i (fun e => hn (by subst e; exact hp hi))).trans (h.block i hi hn)⟩
theorem Turned.grown (h : Turned S a b) {row : Option Nat} (hg : b.grownBy c row) (hr : ∀ k, row = some k → k < a.heap.size → S k) : Turned S a c :=
  h.then_ (S' := fun k => row = some k) ⟨hg.os, hg.tape, hg.output, hg.size, fun k hk hn => hg.block k hk (fun e => hn e.symm)⟩ (fun i hi e => hr i e hi)
theorem Turned.of_below {B : Nat} (h : Below B w w') : Turned (fun k => B ≤ k) w w' := ⟨h.os, h.tape, h.output, h.size, fun k _ hn => h.block k (by omega)⟩
theorem Turned.below {B : Nat} (h : Turned S w w') (hB : B ≤ w.heap.size) (hs : ∀ k, k < B → ¬ S k) : Below B w w' :=
  ⟨h.os, h.tape, h.output, h.size, fun k hk => h.block k (by omega) (hs k hk)⟩
theorem Turned.cell (h : Turned S w w') {p : Addr} (hp : p.block < w.heap.size) (hn : ¬ S p.block) : w'.cell? p = w.cell? p := World.cell?_of_block (w := w) (h.block p.block hp hn)
theorem Turned.setBlock (h : Turned S a b) {g : Nat} (hg : g < a.heap.size → S g) (o : Obj) : Turned S a (ChangeMaps.setBlock b g o) :=
  ⟨h.os, h.tape, h.output, by simpa [ChangeMaps.setBlock] using h.size, fun i hi hn => by
    rw [← h.block i hi hn]
    simp only [ChangeMaps.setBlock]
    rw [Array.getElem?_setIfInBounds_ne (fun e => hn (by subst e; exact hg hi))]⟩
end

/-- Nothing of w has turned: a call that only reads, or only makes memory. -/
abbrev Kept (w w' : World) : Prop := Turned (fun _ => False) w w'

/-! ### a block that is known whole -/
def Blk (w : World) (g : Nat) (t : TypeId) (cs : Array Value) : Prop := w.heap[g]? = some (.cells cs t (0, 0))

section
variable {w w' : World} {g : Nat} {t : TypeId} {cs : Array Value}
theorem lt_of_heap {o : Obj} (h : w.heap[g]? = some o) : g < w.heap.size := by
  rcases Nat.lt_or_ge g w.heap.size with hlt | hge
  · exact hlt
  · rw [Array.getElem?_eq_none hge] at h; cases h
theorem Blk.lt (h : Blk w g t cs) : g < w.heap.size := lt_of_heap h
theorem Blk.cell (h : Blk w g t cs) (i : Nat) : w.cell? ⟨g, i, none⟩ = cs[i]? := cell_of_row w g i cs t (0, 0) h
theorem Blk.frozen (h : Blk w g t cs) (i : Nat) : w.frozen? ⟨g, i, none⟩ = false := by
  unfold Blk at h
  simp [World.frozen?, h]
theorem Blk.new (w : World) (t : TypeId) (cs : Array Value) : Blk (w.alloc (.cells cs t)) w.heap.size t cs := heap_alloc_new w _
theorem Blk.drew (h : Blk w g t cs) : Blk w.drew g t cs := h
theorem Blk.drewN (h : Blk w g t cs) (n : Nat) : Blk (w.drewN n) g t cs := h
theorem Blk.alloc (h : Blk w g t cs) (o : Obj) : Blk (w.alloc o) g t cs := (Below.heap_alloc w o g h.lt).trans h
theorem Blk.set_ (h : Blk w g t cs) (i : Nat) (u : Value) : Blk (w.setCell ⟨g, i, none⟩ u) g t (cs.setIfInBounds i u) := by
  unfold Blk at h ⊢
  simp [World.setCell, Array.getElem?_modify, h]
theorem Blk.far (h : Blk w g t cs) {p : Addr} (hp : g ≠ p.block) (u : Value) : Blk (w.setCell p u) g t cs := (Below.heap_setCell w p u g hp).trans h
theorem Blk.turned {S : Nat → Prop} (h : Blk w g t cs) (hb : Turned S w w') (hg : ¬ S g) : Blk w' g t cs := (hb.block g h.lt hg).trans h
theorem Blk.grown {row : Option Nat} (h : Blk w g t cs) (hb : w.grownBy w' row) (hg : some g ≠ row) : Blk w' g t cs := (hb.block g h.lt hg).trans h
theorem Blk.ne_ {g' : Nat} {t' : TypeId} {cs' : Array Value} (h : Blk w g t cs) (h' : Blk w g' t' cs') (hne : t ≠ t') : g ≠ g' := by
  rintro rfl
  unfold Blk at h h'
  rw [h] at h'
  injection h' with h'
  injection h' with _ ht
  exact hne ht
end

/-! ### a row that is owned -/
section
variable {w w' : World} {base e size n : Nat} {v : Value} {xs : List Value}
theorem own_turned {S : Nat → Prop} (h : w.ownsRow base e size v n xs) (hb : Turned S w w') (hg : ∀ g, v.ownBlock = some g → ¬ S g) : w'.ownsRow base e size v n xs := by
  obtain ⟨h1, h2⟩ := h
  refine ⟨h1, ?_⟩
  rcases h2 with h2 | ⟨g, cap, cur, rfl, hg0, hh, r⟩
  · exact .inl h2
  · exact .inr ⟨g, cap, cur, rfl, hg0, (hb.block g (lt_of_heap hh) (hg g rfl)).trans hh, r⟩
theorem own_lt {g : Nat} (h : w.ownsRow base e size v n xs) (hg : v.ownBlock = some g) : g < w.heap.size := by
  rcases h.2 with ⟨rfl, _⟩ | ⟨g', cap, cur, rfl, _, hh, _⟩
  · simp [Value.ownBlock] at hg
  · have : g' = g := by simpa [Value.ownBlock] using hg
    subst this
    exact lt_of_heap hh
theorem own_base {g : Nat} (h : w.ownsRow base e size v n xs) (hg : v.ownBlock = some g) : base ≤ g := by
  rcases h.2 with ⟨rfl, _⟩ | ⟨g', cap, cur, rfl, hb, _⟩
  · simp [Value.ownBlock] at hg
  · have : g' = g := by simpa [Value.ownBlock] using hg
    subst this
    exact hb
theorem own_slice (h : w.ownsRow base e size v n xs) : ∃ A c, v = .slice A n c := by
  rcases h.2 with ⟨rfl, rfl⟩ | ⟨g, cap, cur, rfl, _⟩
  · exact ⟨_, _, rfl⟩
  · exact ⟨_, _, rfl⟩
theorem own_blk_ne {t : TypeId} {cs : Array Value} {g : Nat} (h : w.ownsRow base e size v n xs) (hg : Blk w g t cs) (hne : e ≠ t) : v.ownBlock ≠ some g := by
  rcases h.2 with ⟨rfl, _⟩ | ⟨g', cap, cur, rfl, _, hh, _⟩
  · simp [Value.ownBlock]
  · intro he
    have : g' = g := by simpa [Value.ownBlock] using he
    subst this
    exact Blk.ne_ (t := e) hh hg hne rfl
/-- Two rows of different element types lie in different blocks. -/
theorem own_own_ne {base' e' size' n' : Nat} {v' : Value} {xs' : List Value} {g : Nat} (h : w.ownsRow base e size v n xs) (h' : w.ownsRow base' e' size' v' n' xs') (hne : e ≠ e') (hg : v.ownBlock = some g) : v'.ownBlock ≠ some g := by
  rcases h.2 with ⟨rfl, _⟩ | ⟨g', cap, cur, rfl, _, hh, _⟩
  · simp [Value.ownBlock] at hg
  · have : g' = g := by simpa [Value.ownBlock] using hg
    subst this
    exact own_blk_ne h' hh (Ne.symm hne)
end

/-! ### a map, known as the list of its entries -/
open Go.Maps (Keyed)

/-- v is a key of type k. -/
def IsK (P : Program) (k : TypeId) (v : Value) : Prop := ∃ l, keyOf P k v = some l

/-- Block b is a map that holds just these entries, in the order in which they first came. -/
def MapAt (w : World) (P : Program) (k : TypeId) (b : Nat) (l : List (Value × Value)) : Prop :=
  ∃ es clock, w.heap[b]? = some (.map es clock) ∧ MapKept.Stamped es clock ∧ es.toList.map (fun e => (e.key, e.val)) = l ∧ ∀ p ∈ l, IsK P k p.1

section
variable {P : Program} {k : TypeId} {w w' : World} {b : Nat} {l : List (Value × Value)}
theorem MapAt.lt (h : MapAt w P k b l) : b < w.heap.size := by
  obtain ⟨es, clock, hb, _⟩ := h
  exact lt_of_heap hb
theorem MapAt.turned {S : Nat → Prop} (h : MapAt w P k b l) (hb : Turned S w w') (hg : ¬ S b) : MapAt w' P k b l := by
  have hlt := h.lt
  obtain ⟨es, clock, h0, h1⟩ := h
  exact ⟨es, clock, (hb.block b hlt hg).trans h0, h1⟩
theorem MapAt.new (w : World) (P : Program) (k : TypeId) : MapAt (w.alloc (.map #[] 0)) P k w.heap.size [] :=
  ⟨#[], 0, heap_alloc_new w _, MapKept.stamped_empty 0, rfl, by simp⟩
theorem MapAt.alloc (h : MapAt w P k b l) (o : Obj) : MapAt (w.alloc o) P k b l := h.turned ((Turned.refl (fun _ => False) w).alloc o) (fun h => h)
theorem MapAt.drew (h : MapAt w P k b l) : MapAt w.drew P k b l := h
theorem MapAt.drewN (h : MapAt w P k b l) (n : Nat) : MapAt (w.drewN n) P k b l := h
theorem MapAt.far (h : MapAt w P k b l) {p : Addr} (hp : p.block ≠ b) (u : Value) : MapAt (w.setCell p u) P k b l :=
  h.turned (S := fun i => i = p.block) ((Turned.refl (fun i => i = p.block) w).setCell (p := p) (fun _ => rfl) u) (fun e => hp e.symm)
theorem MapAt.nodup (h : MapAt w P k b l) : l.Pairwise (fun x y => x.1 ≠ y.1) := by
  obtain ⟨es, clock, _, hs, rfl, _⟩ := h
  rw [List.pairwise_map]
  exact ((MapKept.stamped_iff es clock).1 hs).2.2
theorem MapAt.blk_ne {t : TypeId} {cs : Array Value} {g : Nat} (h : MapAt w P k b l) (hg : Blk w g t cs) : g ≠ b := by
  rintro rfl
  obtain ⟨es, clock, hb, _⟩ := h
  unfold Blk at hg
  rw [hb] at hg
  cases hg
theorem MapAt.own_ne {base e size n : Nat} {v : Value} {xs : List Value} (h : MapAt w P k b l) (ho : w.ownsRow base e size v n xs) : v.ownBlock ≠ some b := by
  rcases ho.2 with ⟨rfl, _⟩ | ⟨g', cap, cur, rfl, _, hh, _⟩
  · simp [Value.ownBlock]
  · intro he
    have : g' = b := by simpa [Value.ownBlock] using he
    exact h.blk_ne hh this

variable {t e : TypeId} {key : Value}
theorem mem_es {es : Array MapEntry} (hl : es.toList.map (fun e => (e.key, e.val)) = l) {x : MapEntry} (hx : x ∈ es.toList) : (x.key, x.val) ∈ l := by
  rw [← hl]; exact List.mem_map.2 ⟨x, hx, rfl⟩

/-- A key that is there. -/
theorem MapAt.look_yes (h : MapAt w P k b l) (K : Keyed P k) (ht : P.underlying t = some (.map k e)) {v : Value} (hm : (key, v) ∈ l) (c : Bool) :
    (Instr.lookup t (.map (some b)) key c).run P w = .ok (if c then .tuple #[v, .bool true] else v) w := by
  have hnd := h.nodup
  obtain ⟨es, clock, hb, hs, hl, hk⟩ := h
  obtain ⟨kl, hkl⟩ := hk _ hm
  rcases K.find w hkl es.toList (fun x hx => hk _ (mem_es hl hx)) with ⟨_, h2⟩ | ⟨j, e0, h1, h2, h3⟩
  · rw [← hl] at hm
    obtain ⟨x, hx, he⟩ := List.mem_map.1 hm
    injection he with he _
    exact absurd he (h2 x hx)
  · have hv : e0.val = v := by
      have hm0 : (e0.key, e0.val) ∈ l := mem_es hl (List.mem_of_getElem? h2)
      rw [h3] at hm0
      have he := List.Pairwise.forall_of_forall_of_flip (R := fun x y : Value × Value => x.1 = y.1 → x = y) (fun _ _ _ => rfl) (hnd.imp (fun hne e => absurd e hne)) (hnd.imp (fun hne e => absurd e.symm hne)) hm0 hm rfl
      injection he
    have hr : (Instr.lookup t (.map (some b)) key c).run P w = .ok (if c then .tuple #[e0.val, .bool true] else e0.val) w := by
      cases c <;> simp [Instr.lookup, run_underlying ht, MapKept.run_getObj_map hb, K.check w _ hkl, h1]
    rw [hr, hv]

/-- A key that isn't. -/
theorem MapAt.look_no (h : MapAt w P k b l) (K : Keyed P k) (ht : P.underlying t = some (.map k e)) {z : Value} (hz : (zeroValue e).run P w = .ok z w) (hkey : IsK P k key) (hm : ∀ p ∈ l, p.1 ≠ key) (c : Bool) :
    (Instr.lookup t (.map (some b)) key c).run P w = .ok (if c then .tuple #[z, .bool false] else z) w := by
  obtain ⟨es, clock, hb, hs, hl, hk⟩ := h
  obtain ⟨kl, hkl⟩ := hkey
  rcases K.find w hkl es.toList (fun x hx => hk _ (mem_es hl hx)) with ⟨h1, _⟩ | ⟨j, e0, h1, h2, h3⟩
  · cases c <;> simp [Instr.lookup, run_underlying ht, MapKept.run_getObj_map hb, K.check w _ hkl, h1, hz]
  · exact absurd h3 (hm _ (mem_es hl (List.mem_of_getElem? h2)))

/-- A store at a new key. -/
theorem MapAt.put_new (h : MapAt w P k b l) (K : Keyed P k) (ht : P.underlying t = some (.map k e)) (hkey : IsK P k key) (hm : ∀ p ∈ l, p.1 ≠ key) (v : Value) :
    ∃ o, (Instr.mapUpdate t (.map (some b)) key v).run P w = .ok () (ChangeMaps.setBlock w b o) ∧ MapAt (ChangeMaps.setBlock w b o) P k b (l ++ [(key, v)]) := by
  obtain ⟨es, clock, hb, hs, hl, hk⟩ := h
  obtain ⟨kl, hkl⟩ := hkey
  rcases K.find w hkl es.toList (fun x hx => hk _ (mem_es hl hx)) with ⟨h1, h2⟩ | ⟨j, e0, h1, h2, h3⟩
  · refine ⟨.map (es.push ⟨key, v, clock⟩) (clock + 1), ?_, es.push ⟨key, v, clock⟩, clock + 1, ChangeMaps.heap_setBlock_same hb _, MapKept.stamped_push hs h2, by simp [hl], ?_⟩
    · simp [Instr.mapUpdate, run_underlying ht, MapKept.run_getObj_map hb, K.check w false hkl, h1, MapKept.run_setObj_map _ hb, Result.andThen, ChangeMaps.setBlock]
    · intro p hp
      rcases List.mem_append.1 hp with hp | hp
      · exact hk p hp
      · rw [List.mem_singleton.1 hp]
        exact ⟨kl, hkl⟩
  · exact absurd h3 (hm _ (mem_es hl (List.mem_of_getElem? h2)))
end

end Go.Proofs.Ytnicfiochnkjbaa
