/- The document's cache: plain facts; a place behind the last. -/
import Derived.Test.YtnicfiochnkjbaaR2
namespace Go.Proofs.Ytnicfiochnkjbaa
open Go.RowKit
section
variable {w w' W w3 : World} {base r : Nat} {room : Int} {I : List RItem} {q : Qu}
theorem place_in {i : Nat} (h : placeR q I = some i) : ∃ x, I[i]? = some x ∧ x ∈ I ∧ x.q = q ∧ i < I.length := by
  unfold placeR at h
  obtain ⟨hi, h1, _⟩ := List.findIdx?_eq_some_iff_getElem.1 h
  exact ⟨I[i], List.getElem?_eq_getElem hi, List.getElem_mem hi, quEq_iff.1 h1, hi⟩
theorem drop_none_map (h : placeR q I = none) : dropX q (I.map RItem.ent) = I.map RItem.ent := by
  unfold placeR at h
  refine dropX_none (fun y hy e => ?_)
  obtain ⟨x, hx, rfl⟩ := List.mem_map.1 hy
  have h1 := List.findIdx?_eq_none_iff.1 h x hx
  rw [show quEq x.q q = true from quEq_iff.2 e] at h1
  cases h1
theorem drop_some_map : ∀ {I : List RItem} {i : Nat}, (I.map RItem.ent).Pairwise (fun a b => a.q ≠ b.q) → placeR q I = some i → (I.eraseIdx i).map RItem.ent = dropX q (I.map RItem.ent)
  | [], i, _, h => by simp [placeR] at h
  | x :: I, i, hk, h => by
    rw [List.map_cons, List.pairwise_cons] at hk
    obtain ⟨h1, h2⟩ := hk
    by_cases hq : x.q = q
    · have hi : i = 0 := by
        unfold placeR at h
        rw [List.findIdx?_cons, quEq_iff.2 hq] at h
        simpa using h.symm
      subst hi
      have hd : dropX q ((x :: I).map RItem.ent) = dropX q (I.map RItem.ent) := by
        unfold dropX
        rw [List.map_cons, List.filter_cons, show quEq (RItem.ent x).q q = true from quEq_iff.2 hq]
        rfl
      rw [hd, dropX_none (fun z hz e => h1 z hz (by show x.q = z.q; rw [hq, e]))]
      rfl
    · have hf : quEq x.q q = false := by rw [Bool.eq_false_iff, Ne, quEq_iff]; exact hq
      unfold placeR at h
      rw [List.findIdx?_cons, hf] at h
      simp only [Bool.false_eq_true, if_false, Option.map_eq_some_iff] at h
      obtain ⟨j, hj, rfl⟩ := h
      have ih := drop_some_map (i := j) h2 hj
      have hd : dropX q ((x :: I).map RItem.ent) = x.ent :: dropX q (I.map RItem.ent) := by
        unfold dropX
        rw [List.map_cons, List.filter_cons, show quEq (RItem.ent x).q q = false from hf]
        rfl
      rw [hd, ← ih]
      rfl
theorem find_map (h : placeR q I = none) : findX q (I.map RItem.ent) = none := by
  unfold findX
  rw [List.find?_eq_none]
  intro y hy
  obtain ⟨x, hx, rfl⟩ := List.mem_map.1 hy
  unfold placeR at h
  have h1 := List.findIdx?_eq_none_iff.1 h x hx
  rw [show quEq (RItem.ent x).q q = false from h1]
  simp
theorem find_some_map {x : RItem} : ∀ {I : List RItem} {i : Nat}, placeR q I = some i → I[i]? = some x → findX q (I.map RItem.ent) = some x.ent
  | [], i, h, _ => by simp [placeR] at h
  | y :: I, i, h, hx => by
    by_cases hq : quEq y.q q = true
    · have hi : i = 0 := by
        unfold placeR at h
        rw [List.findIdx?_cons, hq] at h
        simpa using h.symm
      subst hi
      have : y = x := by simpa using hx
      subst this
      unfold findX
      rw [List.map_cons, List.find?_cons, show quEq (RItem.ent y).q q = true from hq]
    · have hf : quEq y.q q = false := by simpa using hq
      unfold placeR at h
      rw [List.findIdx?_cons, hf] at h
      simp only [Bool.false_eq_true, if_false, Option.map_eq_some_iff] at h
      obtain ⟨j, hj, rfl⟩ := h
      have ih := find_some_map (I := I) (i := j) hj (by simpa using hx)
      unfold findX at ih ⊢
      rw [List.map_cons, List.find?_cons, show quEq (RItem.ent y).q q = false from hf]
      exact ih
/-- All but one. -/
theorem RefIs.less {k : Nat} (h : RefIs w base r room I) {e : Ending} (hp : WoPost18 w r k room I e w') : RefIs w' base r room (I.eraseIdx k) ∧ e = .returned (.tuple #[]) ∧ Turned (fun j => j = r) w w' := by
  obtain ⟨he, v', hB, hO, hT⟩ := hp
  obtain ⟨v, hB0, hO0⟩ := h.row
  have hb : base ≤ w.heap.size := by have := h.ge; have := hB0.lt; omega
  refine ⟨⟨h.ge, ⟨v', hB, own_weaken hO hb⟩, fun x hx => ?_, fun x hx => h.set x (List.mem_of_mem_eraseIdx hx)⟩, he, hT⟩
  have hx' := List.mem_of_mem_eraseIdx hx
  refine own_turned (h.who x hx') hT (fun g hg e => ?_)
  subst e
  exact own_blk_ne (h.who x hx') hB0 (by decide) hg
theorem RefIs.without (h : RefIs w base r room I) {k : Nat} (hk : k < I.length) (hI : I.length ≤ 1000000) :
    Calls Try.prog 49 #[.pointer (some ⟨r, 0, none⟩), .int .i64 k] w fun e w' => e = .returned (.tuple #[]) ∧ RefIs w' base r room (I.eraseIdx k) ∧ Turned (fun j => j = r) w w' := by
  obtain ⟨v, hB, hO⟩ := h.row
  refine (without18_any hB hO hk hI).mono fun e w' hp => ?_
  obtain ⟨h1, h2, h3⟩ := h.less hp
  exact ⟨h2, h1, h3⟩
theorem RefIs.withoutF (h : RefIs w base r room I) {k : Nat} (hk : k < I.length) (hI : I.length ≤ 1000000) :
    Calls Try.prog 49 #[.pointer (some ⟨r, 0, none⟩), .int .i64 k] w fun e w' => e = .returned (.tuple #[]) ∧ RefIs w' base r room (I.eraseIdx k) ∧ Turned (fun j => j = r) w w' ∧ ∀ v, Blk w' r 50 #[v, .int .i64 room] → ∀ g, v.ownBlock = some g → w.heap.size ≤ g := by
  obtain ⟨v, hB, hO⟩ := h.row
  refine (without18_any hB hO hk hI).mono fun e w' hp => ?_
  obtain ⟨h1, h2, h3⟩ := h.less hp
  obtain ⟨_, v', hB', hO', _⟩ := hp
  refine ⟨h2, h1, h3, fun v2 hB2 g hg => ?_⟩
  unfold Blk at hB' hB2
  rw [hB'] at hB2
  injection hB2 with hB2
  injection hB2 with hB2
  have : v' = v2 := by simpa using hB2
  subst this
  exact own_base hO' hg
theorem RefIs.without0 (h : RefIs w base r room I) (hk : 0 < I.length) (hI : I.length ≤ 1000000) :
    Calls Try.prog 49 #[.pointer (some ⟨r, 0, none⟩), .int .i64 0] w fun e w' => e = .returned (.tuple #[]) ∧ RefIs w' base r room (I.eraseIdx 0) ∧ Turned (fun j => j = r) w w' := h.without hk hI
theorem ReadsT.past {A : Option Addr} {who : List ByteArray} {Av : Option Addr} {n cv : Nat} (h : ReadsT Value.string w w.heap.size 1 A who) (hT : Turned (fun j => j = r) w W) (hB : Blk w r 50 #[.slice Av n cv, .int .i64 room]) : ReadsT Value.string W w.heap.size 1 A who := fun j hj => by
  obtain ⟨b, o, h1, h2, h3⟩ := h j hj
  refine ⟨b, o, h1, h2, fun i hi => (hT.cell (p := ⟨b, o + j * 1 + i, none⟩) h2 (fun e => ?_)).trans (h3 i hi)⟩
  have h0 := h3 0 (by omega)
  simp only at e
  subst e
  rw [hB.cell] at h0
  generalize o + j * 1 + 0 = m at h0
  match m with
  | 0 => simp [Value.cells] at h0
  | 1 => simp [Value.cells] at h0
  | m + 2 => simp [Value.cells] at h0
/-- One more behind the last. -/
theorem RefIs.pushed {v2 v3 : Value} {y : RItem} (hR : RefIs W base r room I) (B2 : Blk W r 50 #[v2, .int .i64 room]) (O2 : W.ownsRow base 104 7 v2 I.length (cellsOf itemV I))
    (hg3 : (W.alloc (.cells y.cs 104)).drew.grownBy w3 v2.ownBlock) (O3 : w3.ownsRow base 104 7 v3 (I.length + 1) (cellsOf itemV I ++ y.cs.toList)) (hlt3 : ∀ g, v3.ownBlock = some g → v2.ownBlock = some g ∨ W.heap.size ≤ g)
    (hy : W.ownsRow base 51 1 (.slice y.A y.q.who.length y.c) y.q.who.length (y.q.who.map Value.string)) (hs : setR y.q.who = true) :
    RefIs (w3.setCell ⟨r, 0, none⟩ v3) base r room (I ++ [y]) ∧ Turned (fun k => k = r ∨ v2.ownBlock = some k) W (w3.setCell ⟨r, 0, none⟩ v3) := by
  have hT3 : Turned (fun k => v2.ownBlock = some k) W w3 := (((Turned.refl _ W).alloc _).drew).grown hg3 (fun k h _ => h)
  have hT : Turned (fun k => k = r ∨ v2.ownBlock = some k) W (w3.setCell ⟨r, 0, none⟩ v3) := (hT3.mono (S' := fun k => k = r ∨ v2.ownBlock = some k) (fun i _ h => .inr h)).setCell (p := ⟨r, 0, none⟩) (fun _ => .inl rfl) _
  have B3 : Blk w3 r 50 #[v2, .int .i64 room] := B2.turned hT3 (own_blk_ne O2 B2 (by decide))
  have hw : ∀ {x : RItem}, W.ownsRow base 51 1 (.slice x.A x.q.who.length x.c) x.q.who.length (x.q.who.map Value.string) → (w3.setCell ⟨r, 0, none⟩ v3).ownsRow base 51 1 (.slice x.A x.q.who.length x.c) x.q.who.length (x.q.who.map Value.string) := fun {x} hx =>
    own_turned hx hT (fun g hg e => by
      rcases e with rfl | e
      · exact own_blk_ne hx B2 (by decide) hg
      · exact own_own_ne hx O2 (by decide) hg e)
  refine ⟨⟨hR.ge, ⟨v3, B3.set_ 0 v3, ?_⟩, fun x hx => ?_, fun x hx => ?_⟩, hT⟩
  · rw [cellsOf_append, List.length_append, List.length_singleton]
    have hc : cellsOf itemV [y] = y.cs.toList := by simp [cellsOf, itemV, Value.cells]
    rw [hc]
    refine own_turned O3 ((Turned.refl (fun k => k = r) w3).setCell (p := ⟨r, 0, none⟩) (fun _ => rfl) v3) (fun g hg e => ?_)
    subst e
    rcases hlt3 _ hg with h | h
    · exact own_blk_ne O2 B2 (by decide) h
    · have := B2.lt
      omega
  · rcases List.mem_append.1 hx with hx | hx
    · exact hw (hR.who x hx)
    · rw [List.mem_singleton.1 hx]
      exact hw hy
  · rcases List.mem_append.1 hx with hx | hx
    · exact hR.set x hx
    · rw [List.mem_singleton.1 hx]
      exact hs
theorem RFoot.of_row {v : Value} (hT : Turned (fun j => j = r) w W) (hge : base ≤ r) (B : Blk w r 50 #[v, .int .i64 room]) {v2 : Value} {n : Nat} {xs : List Value} (O2 : W.ownsRow base 104 7 v2 n xs) {vr : Value} (B2 : Blk W r 50 #[vr, .int .i64 room]) {k : Nat} (hk : k < w.heap.size) (h : k = r ∨ v2.ownBlock = some k) : RFoot base w k := by
  rcases h with rfl | h
  · exact ⟨hge, _, _, B, .inl rfl⟩
  · obtain ⟨g1, cs, g2⟩ := own_blk O2 h
    refine ⟨g1, _, cs, ?_, .inr rfl⟩
    unfold Blk at g2 ⊢
    rw [← hT.block k hk (fun e => ?_)]
    · exact g2
    · subst e
      exact own_blk_ne O2 B2 (by decide) h
end
end Go.Proofs.Ytnicfiochnkjbaa
