/- A map known as the list of its entries: delete, a store over what is there, clear; a delete while it is ranged over. No statement of the program is proved here. -/
import Derived.Test.YtnicfiochnkjbaaMapR
namespace Go.Proofs.Ytnicfiochnkjbaa
open Go.RowKit
open Go.Maps (Keyed)
open Go.ChangeMaps (setBlock)

section
variable {P : Program} {k t e : TypeId} {w w' : World} {b : Nat} {l : List (Value × Value)} {key : Value}

theorem key_uniq {l : List (Value × Value)} (h : l.Pairwise (fun x y => x.1 ≠ y.1)) {x y : Value × Value} (hx : x ∈ l) (hy : y ∈ l) (he : x.1 = y.1) : x = y :=
  List.Pairwise.forall_of_forall_of_flip (R := fun x y : Value × Value => x.1 = y.1 → x = y) (fun _ _ _ => rfl) (h.imp (fun hne e => absurd e hne)) (h.imp (fun hne e => absurd e.symm hne)) hx hy he
theorem erase_perm {α : Type} : ∀ (l : List α) (j : Nat) (x : α), l[j]? = some x → l.Perm (x :: l.eraseIdx j)
  | [], j, x, h => by simp at h
  | a :: l, 0, x, h => by simp at h; subst h; simp
  | a :: l, j + 1, x, h => by
    have := erase_perm l j x (by simpa using h)
    simp only [List.eraseIdx_cons_succ]
    exact (this.cons a).trans (List.Perm.swap x a _)
theorem eraseA {es : Array MapEntry} (j : Nat) : (es.eraseIdxIfInBounds j).toList = es.toList.eraseIdx j := by
  rw [Array.eraseIdxIfInBounds]
  split
  · simp
  · rw [List.eraseIdx_of_length_le (by simpa using Nat.le_of_not_lt ‹_›)]
theorem map_eraseIdx' {α β : Type} (f : α → β) : ∀ (l : List α) (j : Nat), (l.eraseIdx j).map f = (l.map f).eraseIdx j
  | [], _ => by simp
  | _ :: _, 0 => by simp
  | a :: l, j + 1 => by simp [map_eraseIdx' f l j]

/-- Where a key that is there stands. -/
theorem MapAt.at_ (h : MapAt w P k b l) (K : Keyed P k) {v : Value} (hm : (key, v) ∈ l) : ∃ es clock j e0 kl, w.heap[b]? = some (.map es clock) ∧ MapKept.Stamped es clock ∧ es.toList.map (fun e => (e.key, e.val)) = l ∧ (∀ p ∈ l, IsK P k p.1) ∧
    keyOf P k key = some kl ∧ (Instr.findKey k key es.toList).run P w = .ok (some (j, v)) w ∧ es.toList[j]? = some e0 ∧ e0.key = key ∧ e0.val = v := by
  have hnd := h.nodup
  obtain ⟨es, clock, hb, hs, hl, hk⟩ := h
  obtain ⟨kl, hkl⟩ := hk _ hm
  rcases K.find w hkl es.toList (fun x hx => hk _ (mem_es hl hx)) with ⟨_, h2⟩ | ⟨j, e0, h1, h2, h3⟩
  · rw [← hl] at hm
    obtain ⟨x, hx, he⟩ := List.mem_map.1 hm
    injection he with he _
    exact absurd he (h2 x hx)
  · have hm0 : (e0.key, e0.val) ∈ l := mem_es hl (List.mem_of_getElem? h2)
    have hv : e0.val = v := by
      have := key_uniq hnd hm0 hm h3
      injection this
    rw [hv] at h1
    exact ⟨es, clock, j, e0, kl, hb, hs, hl, hk, hkl, h1, h2, h3, hv⟩

/-- A delete of a key that is there. -/
theorem MapAt.del_yes (h : MapAt w P k b l) (K : Keyed P k) (ht : P.underlying t = some (.map k e)) {v : Value} (hm : (key, v) ∈ l) (ty : TypeId) :
    ∃ w2 l', (Builtin.delete_ #[t, k] ty #[.map (some b), key]).run P w = .ok (.tuple #[]) w2 ∧ MapAt w2 P k b l' ∧ l.Perm ((key, v) :: l') ∧ Turned (fun i => i = b) w w2 ∧ w2.heap.size = w.heap.size := by
  obtain ⟨es, clock, j, e0, kl, hb, hs, hl, hk, hkl, h1, h2, h3, h4⟩ := h.at_ K hm
  have hp : l.Perm ((key, v) :: l.eraseIdx j) := by
    refine erase_perm l j _ ?_
    rw [← hl, List.getElem?_map, h2]
    simp [h3, h4]
  refine ⟨setBlock w b (.map (es.eraseIdxIfInBounds j) clock), l.eraseIdx j, ?_, ⟨_, clock, ChangeMaps.heap_setBlock_same hb _, MapKept.stamped_erase hs j, ?_, fun p hpm => hk p (List.mem_of_mem_eraseIdx hpm)⟩, hp, (Turned.refl (fun i => i = b) w).setBlock (g := b) (fun _ => rfl) _, by simp [setBlock]⟩
  · simp [Builtin.delete_, run_underlying ht, MapKept.run_getObj_map hb, K.check w _ hkl, h1, MapKept.run_setObj_map _ hb, setBlock]
  · rw [eraseA, map_eraseIdx', hl]
/-- .. of one that isn't. -/
theorem MapAt.del_no (h : MapAt w P k b l) (K : Keyed P k) (ht : P.underlying t = some (.map k e)) (hkey : IsK P k key) (hm : ∀ p ∈ l, p.1 ≠ key) (ty : TypeId) :
    ∃ w2, (Builtin.delete_ #[t, k] ty #[.map (some b), key]).run P w = .ok (.tuple #[]) w2 ∧ MapAt w2 P k b l ∧ Turned (fun i => i = b) w w2 ∧ w2.heap.size = w.heap.size := by
  obtain ⟨es, clock, hb, hs, hl, hk⟩ := h
  obtain ⟨kl, hkl⟩ := hkey
  rcases K.find w hkl es.toList (fun x hx => hk _ (mem_es hl hx)) with ⟨h1, _⟩ | ⟨j, e0, h1, h2, h3⟩
  · refine ⟨setBlock w b (.map es clock), ?_, ⟨es, clock, ChangeMaps.heap_setBlock_same hb _, hs, hl, hk⟩, (Turned.refl (fun i => i = b) w).setBlock (g := b) (fun _ => rfl) _, by simp [setBlock]⟩
    simp [Builtin.delete_, run_underlying ht, MapKept.run_getObj_map hb, K.check w _ hkl, h1, MapKept.run_setObj_map _ hb, setBlock]
  · exact absurd h3 (hm _ (mem_es hl (List.mem_of_getElem? h2)))
/-- A delete, whatever is there. -/
theorem MapAt.del (h : MapAt w P k b l) (K : Keyed P k) (ht : P.underlying t = some (.map k e)) (hkey : IsK P k key) (ty : TypeId) :
    ∃ w2 l', (Builtin.delete_ #[t, k] ty #[.map (some b), key]).run P w = .ok (.tuple #[]) w2 ∧ MapAt w2 P k b l' ∧ ((∃ v, l.Perm ((key, v) :: l')) ∨ l' = l ∧ ∀ p ∈ l, p.1 ≠ key) ∧ Turned (fun i => i = b) w w2 ∧ w2.heap.size = w.heap.size := by
  by_cases hm : ∃ v, (key, v) ∈ l
  · obtain ⟨v, hm⟩ := hm
    obtain ⟨w2, l', h1, h2, h3, h4, h5⟩ := h.del_yes K ht hm ty
    exact ⟨w2, l', h1, h2, .inl ⟨v, h3⟩, h4, h5⟩
  · have hm' : ∀ p ∈ l, p.1 ≠ key := fun p hp he => hm ⟨p.2, by rw [← he]; exact hp⟩
    obtain ⟨w2, h1, h2, h4, h5⟩ := h.del_no K ht hkey hm' ty
    exact ⟨w2, l, h1, h2, .inr ⟨rfl, hm'⟩, h4, h5⟩

/-- A store over what is there. -/
theorem MapAt.put_over (h : MapAt w P k b l) (K : Keyed P k) (ht : P.underlying t = some (.map k e)) {v0 : Value} (hm : (key, v0) ∈ l) (v : Value) :
    ∃ w2 l' l0, (Instr.mapUpdate t (.map (some b)) key v).run P w = .ok () w2 ∧ MapAt w2 P k b l' ∧ l.Perm ((key, v0) :: l0) ∧ l'.Perm ((key, v) :: l0) ∧ Turned (fun i => i = b) w w2 ∧ w2.heap.size = w.heap.size := by
  obtain ⟨es, clock, j, e0, kl, hb, hs, hl, hk, hkl, h1, h2, h3, h4⟩ := h.at_ K hm
  have hj : es[j]? = some e0 := by simpa using h2
  have hjl : l[j]? = some (key, v0) := by
    rw [← hl, List.getElem?_map, h2]
    simp [h3, h4]
  have hjlt : j < l.length := (List.getElem?_eq_some_iff.1 hjl).1
  have hset : (es.modify j fun e => { e with key, val := v }).toList.map (fun e => (e.key, e.val)) = l.set j (key, v) := by
    rw [← hl]
    apply List.ext_getElem?
    intro i
    simp only [List.getElem?_map, Array.getElem?_toList, Array.getElem?_modify, List.getElem?_set, List.length_map]
    by_cases hij : j = i
    · subst hij
      rw [← hl, List.length_map, Array.length_toList] at hjlt
      simp [hjlt]
    · simp [hij]
  have hp2 : (l.set j (key, v)).Perm ((key, v) :: l.eraseIdx j) := by
    have := erase_perm (l.set j (key, v)) j (key, v) (by rw [List.getElem?_set_self hjlt])
    rwa [List.eraseIdx_set_eq] at this
  refine ⟨setBlock w b (.map (es.modify j fun e => { e with key, val := v }) clock), l.set j (key, v), l.eraseIdx j, ?_, ⟨_, clock, ChangeMaps.heap_setBlock_same hb _, ?_, hset, ?_⟩, erase_perm l j _ hjl, hp2, (Turned.refl (fun i => i = b) w).setBlock (g := b) (fun _ => rfl) _, by simp [setBlock]⟩
  · have hst := K.stays w hkl
    simp [Instr.mapUpdate, run_underlying ht, MapKept.run_getObj_map hb, K.check w false hkl, h1, hj, h3, hst, MapKept.run_setObj_map _ hb, Result.andThen, setBlock]
  · refine MapKept.stamped_modify hs j _ (fun _ _ => rfl) (fun e1 _ h => ?_)
    have h' : e1 = e0 := by simpa [hj] using h.symm
    rw [h']
    exact h3.symm
  · intro p hp
    rcases List.mem_or_eq_of_mem_set hp with hp | rfl
    · exact hk p hp
    · exact ⟨kl, hkl⟩

/-- All gone. -/
theorem MapAt.clear (h : MapAt w P k b l) (ht : P.underlying t = some (.map k e)) (ty : TypeId) :
    ∃ w2, (Builtin.clear_ #[t] ty #[.map (some b)]).run P w = .ok (.tuple #[]) w2 ∧ MapAt w2 P k b [] ∧ Turned (fun i => i = b) w w2 ∧ w2.heap.size = w.heap.size := by
  obtain ⟨es, clock, hb, hs, hl, hk⟩ := h
  refine ⟨setBlock w b (.map #[] clock), ?_, ⟨#[], clock, ChangeMaps.heap_setBlock_same hb _, MapKept.stamped_empty clock, rfl, by simp⟩, (Turned.refl (fun i => i = b) w).setBlock (g := b) (fun _ => rfl) _, by simp [setBlock]⟩
  simp [Builtin.clear_, run_underlying ht, MapKept.run_getObj_map hb, MapKept.run_setObj_map _ hb, setBlock]

/-- A delete of what has come out of a range already. -/
theorem RangeAt.del {r : Nat} {left : List (Value × Value)} (h : RangeAt w P k b r l left) (K : Keyed P k) (ht : P.underlying t = some (.map k e)) {v : Value} (hm : (key, v) ∈ l) (hn : ∀ p ∈ left, p.1 ≠ key) (ty : TypeId) :
    ∃ w2 l', (Builtin.delete_ #[t, k] ty #[.map (some b), key]).run P w = .ok (.tuple #[]) w2 ∧ RangeAt w2 P k b r l' left ∧ l.Perm ((key, v) :: l') ∧ Turned (fun i => i = b) w w2 ∧ w2.heap.size = w.heap.size := by
  have hbr : b ≠ r := h.map_ne h.map
  have hmap := h.map
  obtain ⟨es, clock, since, seen, c0, a1, a2, a3, a4, a5, a6, a7, a8, a9⟩ := h
  obtain ⟨es', clock', j, e0, kl, hb, hs, hl, hk, hkl, h1, h2, h3, h4⟩ := hmap.at_ K hm
  rw [a1] at hb
  injection hb with hb
  injection hb with he hc
  subst he hc
  have hp : l.Perm ((key, v) :: l.eraseIdx j) := by
    refine erase_perm l j _ ?_
    rw [← hl, List.getElem?_map, h2]
    simp [h3, h4]
  have hseen : seen.contains e0.born = true := by
    rcases hq : seen.contains e0.born with _ | _
    · exfalso
      refine hn (e0.key, e0.val) ?_ h3
      rw [← a9]
      refine List.mem_map.2 ⟨e0, mem_leftOf.2 ⟨List.mem_of_getElem? h2, ?_⟩, rfl⟩
      intro hin
      rw [Array.contains_iff_mem.2 hin] at hq
      cases hq
    · rfl
  have hleft : (leftOf (es.eraseIdxIfInBounds j) seen).toList = (leftOf es seen).toList := by
    unfold leftOf
    rw [Array.toList_filter, Array.toList_filter, eraseA]
    clear a1 a2 a3 a6 a9 hs hl h1 hmap hp
    generalize es.toList = L at h2
    induction L generalizing j with
    | nil => simp at h2
    | cons x L ih =>
      cases j with
      | zero =>
        simp at h2
        subst h2
        rw [List.eraseIdx_cons_zero, List.filter_cons, hseen]
        rfl
      | succ j =>
        simp only [List.eraseIdx_cons_succ, List.filter_cons]
        rw [ih j (by simpa using h2)]
  have hsub : ∀ x ∈ (es.eraseIdxIfInBounds j).toList, x ∈ es.toList := fun x hx => by rw [eraseA] at hx; exact List.mem_of_mem_eraseIdx hx
  refine ⟨setBlock w b (.map (es.eraseIdxIfInBounds j) clock), l.eraseIdx j, ?_, ⟨_, clock, since, seen, c0, ChangeMaps.heap_setBlock_same a1 _, MapKept.stamped_erase hs j, ?_, fun p hpm => hk p (List.mem_of_mem_eraseIdx hpm), ?_, fun x hx => a6 x (hsub x hx), a7, a8, ?_⟩, hp, (Turned.refl (fun i => i = b) w).setBlock (g := b) (fun _ => rfl) _, by simp [setBlock]⟩
  · simp [Builtin.delete_, run_underlying ht, MapKept.run_getObj_map a1, K.check w _ hkl, h1, MapKept.run_setObj_map _ a1, setBlock]
  · rw [eraseA, map_eraseIdx', hl]
  · simp only [setBlock]
    rw [Array.getElem?_setIfInBounds_ne hbr]
    exact a5
  · rw [hleft]
    exact a9
end

/-! ### at the operation -/
section
variable {P : Program} {w : World} {ops : Array Oper} {rest : List Oper} {o : Oper} {a : Act} {Q : Exit → Act → World → Prop} {K' : Act → World → Prop}
theorem wp_delete_run (m x : Operand) (t k : TypeId) (hop : o.op = Op.call { callee := Callee.builtin Builtin.delete, args := #[m, x], argTypes := #[t, k] }) {vm vx : Value} {w2 : World}
    (hm : a.eval m = vm) (hx : a.eval x = vx) (hrun : (Builtin.delete_ #[t, k] o.type #[vm, vx]).run P w = .ok (.tuple #[]) w2) (hK : K' (a.put o.dst (.tuple #[])) w2) : o.wp P a w K' Q := by
  unfold Oper.wp
  simp [execOp, hop, resolve, invoke, builtin, hm, hx, hrun, Result.andThen]
  exact hK
theorem wp_mapUpdate_run (m x y : Operand) (t : TypeId) (hop : o.op = Op.mapUpdate t m x y) {vm vx vy : Value} {w2 : World}
    (hm : a.eval m = vm) (hx : a.eval x = vx) (hy : a.eval y = vy) (hrun : (Instr.mapUpdate t vm vx vy).run P w = .ok () w2) (hK : K' (a.put o.dst undef) w2) : o.wp P a w K' Q := by
  unfold Oper.wp
  simp [execOp, hop, hm, hx, hy, hrun, Result.andThen]
  exact hK
end
end Go.Proofs.Ytnicfiochnkjbaa
