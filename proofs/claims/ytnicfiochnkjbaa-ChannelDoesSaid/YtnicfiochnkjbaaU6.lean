/- The channels' table beside the document's: what the law holds. -/
import Derived.Test.YtnicfiochnkjbaaU5
namespace Go.Proofs.Ytnicfiochnkjbaa
open Go.RowKit
def ownC (x : TAct) (A5 : Option Addr) (c5 : Nat) : Array Value := #[.int .i64 x.kind, .int .u16 x.ch, .slice A5 x.who.length c5, .int .i64 x.seq]
/-- What a round holds: the act, the law's own, its own copy of who. -/
structure LawT (W : World) (gx gy : Nat) (x : TAct) (A5 : Option Addr) (c5 base : Nat) (L : List Value) : Prop where
  act : Blk W gx 62 #[.int .i64 x.kind, .int .u16 x.ch, .slice x.A x.who.length x.c, .int .i64 x.seq]
  own : Blk W gy 62 (ownC x A5 c5)
  row : W.ownsRow base 51 1 (.slice A5 x.who.length c5) x.who.length L
section
variable {w wr W W' : World} {t mb gx gy r base c5 : Nat} {room : Int} {E I : List TEnt} {G : List Int} {x : TAct} {A5 : Option Addr} {L : List Value}
theorem LawT.turned {S : Nat → Prop} (h : LawT W gx gy x A5 c5 base L) (hT : Turned S W W') (hS : ∀ k ty cs, Blk W k ty cs → (ty = 62 ∨ ty = 51) → ¬ S k) : LawT W' gx gy x A5 c5 base L :=
  ⟨h.act.turned hT (hS _ _ _ h.act (.inl rfl)), h.own.turned hT (hS _ _ _ h.own (.inl rfl)), own_turned h.row hT (fun g hg => by
    obtain ⟨_, cs, hb⟩ := own_blk h.row hg
    exact hS _ _ _ hb (.inr rfl))⟩
theorem LawT.kept (h : LawT W gx gy x A5 c5 base L) (hT : Kept W W') : LawT W' gx gy x A5 c5 base L := h.turned hT (fun _ _ _ _ _ h => h)
theorem LawT.tfoot {base' : Nat} (h : LawT W gx gy x A5 c5 base L) (hP : TabP w W t mb room E G) (hT : Turned (TFoot base' mb W) W W') : LawT W' gx gy x A5 c5 base L :=
  h.turned hT (fun k ty cs hb ht => TFoot.not hb (by rcases ht with rfl | rfl <;> decide) (by rcases ht with rfl | rfl <;> decide) (hP.tab.gone.blk_ne hb))
theorem LawT.ufoot {base' : Nat} (h : LawT W gx gy x A5 c5 base L) (hT : Turned (UFoot base' W) W W') : LawT W' gx gy x A5 c5 base L :=
  h.turned hT (fun k ty cs hb ht => UFoot.not hb (by rcases ht with rfl | rfl <;> decide) (by rcases ht with rfl | rfl <;> decide) (by rcases ht with rfl | rfl <;> decide))
theorem LawT.reads (h : LawT W gx gy x A5 c5 base (x.who.map Value.string)) : ReadsT Value.string W W.heap.size 1 A5 x.who := ReadsT.of_one (V := Value.string) (fun _ => rfl) h.row
theorem LawT.blk (h : LawT W gx gy x A5 c5 base L) {b o : Nat} (h0 : 0 < x.who.length) (e : A5 = some ⟨b, o, none⟩) : (Value.slice A5 x.who.length c5).ownBlock = some b ∧ ∃ cs, Blk W b 51 cs := by
  obtain ⟨g, hA, _⟩ := own_at h.row h0
  rw [hA] at e
  injection e with e
  injection e with e1 e2
  have hob : (Value.slice A5 x.who.length c5).ownBlock = some b := by rw [hA, e1]; simp [Value.ownBlock]
  obtain ⟨_, cs, hb⟩ := own_blk h.row hob
  exact ⟨hob, cs, hb⟩
theorem RefT.tfoot {base' : Nat} (h : RefT W base r room I G) (hP : TabP w W t mb room E G) (hT : Turned (TFoot base' mb W) W W') : RefT W' base r room I G :=
  h.beside hT (fun k ty cs _ hb ht => TFoot.not hb (by rcases ht with rfl | rfl | rfl <;> decide) (by rcases ht with rfl | rfl | rfl <;> decide) (hP.tab.gone.blk_ne hb)) (fun y hy g cs _ _ hb => TFoot.not hb (by decide) (by decide) (hP.tab.gone.blk_ne hb))
theorem TabP.beside {S : Nat → Prop} (h : TabP w W t mb room E G) (hT : Turned S W W') (h1 : ∀ k ty cs, w.heap.size ≤ k → Blk W k ty cs → (ty = 110 ∨ ty = 126) → ¬ S k) (h2 : ∀ x ∈ E, ∀ g cs, x.ownB = some g → w.heap.size ≤ g → Blk W g 51 cs → ¬ S g) (h3 : ¬ S mb) (hb : ∀ k, k < w.heap.size → ¬ S k) : TabP w W' t mb room E G :=
  ⟨h.tab.beside hT h1 h2 h3, h.since.then_ hT (fun i hi e => absurd e (hb i hi)), h.keys, h.dis, h.len, h.lo, h.hi, h.span⟩
theorem TabP.ufoot (h : TabP w W t mb room E G) (hT : Turned (UFoot w.heap.size W) W W') : TabP w W' t mb room E G :=
  h.beside hT (fun k ty cs _ hb ht => UFoot.not hb (by rcases ht with rfl | rfl <;> decide) (by rcases ht with rfl | rfl <;> decide) (by rcases ht with rfl | rfl <;> decide)) (fun y hy g cs _ _ hb => UFoot.not hb (by decide) (by decide) (by decide)) (fun ⟨_, ty, cs, hb, _⟩ => h.tab.gone.blk_ne hb rfl) (fun k hk e => by have := e.1; omega)
theorem TabP.newer {S : Nat → Prop} (h : TabP w W t mb room E G) (hT : Turned S W W') (hS : ∀ k, S k → W.heap.size ≤ k) : TabP w W' t mb room E G :=
  ⟨h.tab.newer hT hS, h.since.then_ hT (fun i hi e => by have := hS i e; have := h.since.size; omega), h.keys, h.dis, h.len, h.lo, h.hi, h.span⟩
theorem LawT.newer {S : Nat → Prop} (h : LawT W gx gy x A5 c5 base L) (hT : Turned S W W') (hS : ∀ k, S k → W.heap.size ≤ k) : LawT W' gx gy x A5 c5 base L :=
  h.turned hT (fun k ty cs hb _ e => by have := hb.lt; have := hS k e; omega)
theorem who19_reads (h : RefT W base r room I G) (c : Int) : ∃ A cp, who19 c I G = .slice A (whoT c I G).length cp ∧ ReadsT Value.string W W.heap.size 1 A (whoT c I G) ∧ (whoT c I G).length ≤ 16 := by
  unfold who19 whoT
  rcases ho : openT c I G with _ | x
  · exact ⟨none, 0, rfl, reads_nil, by simp⟩
  · have hm := (open_some ho).2.2.2.2.1
    exact ⟨x.A, x.c, rfl, h.reads hm, (setR_parts (h.set x hm)).2.1⟩
/-- The law's own copy of who is no one's. -/
def Mine (A5 : Option Addr) (n c5 : Nat) (E : List TEnt) : Prop := ∀ y ∈ E, ∀ g, (Value.slice A5 n c5).ownBlock = some g → y.ownB ≠ some g
end
end Go.Proofs.Ytnicfiochnkjbaa
