/- A map known as the list of its entries: stores at a key that is there, its length, and a range over it. No statement of the program is proved here. -/
import Derived.Test.YtnicfiochnkjbaaBase
import Derived.Maps.RangeRun
namespace Go.Proofs.Ytnicfiochnkjbaa
open Go.RowKit
open Go.Maps (Keyed)
open Go.ChangeMaps (setBlock)

section
variable {P : Program} {k t e : TypeId} {w w' : World} {b : Nat} {l : List (Value × Value)} {key : Value}

theorem modify_same {es : Array MapEntry} {j : Nat} {e0 : MapEntry} (h2 : es.toList[j]? = some e0) {f : MapEntry → MapEntry} (hf : (f e0).key = e0.key ∧ (f e0).val = e0.val) :
    (es.modify j f).toList.map (fun e => (e.key, e.val)) = es.toList.map (fun e => (e.key, e.val)) := by
  apply List.ext_getElem?
  intro i
  simp only [List.getElem?_map, Array.getElem?_toList, Array.getElem?_modify]
  by_cases hij : j = i
  · subst hij
    rw [if_pos rfl]
    have : es[j]? = some e0 := by simpa using h2
    simp [this, hf.1, hf.2]
  · rw [if_neg hij]

/-- A store at a key that holds just that. -/
theorem MapAt.put_same (h : MapAt w P k b l) (K : Keyed P k) (ht : P.underlying t = some (.map k e)) {v : Value} (hm : (key, v) ∈ l) :
    ∃ w2, (Instr.mapUpdate t (.map (some b)) key v).run P w = .ok () w2 ∧ MapAt w2 P k b l ∧ Turned (fun i => i = b) w w2 := by
  have hnd := h.nodup
  obtain ⟨es, clock, hb, hs, hl, hk⟩ := h
  obtain ⟨kl, hkl⟩ := hk _ hm
  rcases K.find w hkl es.toList (fun x hx => hk _ (mem_es hl hx)) with ⟨_, h2⟩ | ⟨j, e0, h1, h2, h3⟩
  · rw [← hl] at hm
    obtain ⟨x, hx, he⟩ := List.mem_map.1 hm
    injection he with he _
    exact absurd he (h2 x hx)
  · have hv : e0.val = v := by
      have hm0 : (e0.key, e0.val) ∈ l := mem_es hl (List.mem_of_getElem? h2)
      rw [h3] at hm0
      have he := List.Pairwise.forall_of_forall_of_flip (R := fun x y : Value × Value => x.1 = y.1 → x = y) (fun _ _ _ => rfl) (hnd.imp (fun hne e => absurd e hne)) (hnd.imp (fun hne e => absurd e.symm hne)) hm0 hm rfl
      injection he
    have hj : es[j]? = some e0 := by simpa using h2
    have h3' : e0.key = key := h3
    refine ⟨setBlock w b (.map (es.modify j fun e => { e with key, val := v }) clock), ?_, ⟨_, clock, ChangeMaps.heap_setBlock_same hb _, ?_, ?_, hk⟩, (Turned.refl (fun i => i = b) w).setBlock (g := b) (fun _ => rfl) _⟩
    · have hst := K.stays w hkl
      simp only [] at hst
      simp [Instr.mapUpdate, run_underlying ht, MapKept.run_getObj_map hb, K.check w false hkl, h1, hj, h3', hst, MapKept.run_setObj_map _ hb, Result.andThen, setBlock]
    · refine MapKept.stamped_modify hs j _ (fun _ _ => rfl) (fun e1 _ h => ?_)
      have h' : e1 = e0 := by simpa [hj] using h.symm
      rw [h']
      exact h3'.symm
    · rw [modify_same h2 (f := fun e => { e with key, val := v }) ⟨h3'.symm, hv.symm⟩]
      exact hl

theorem MapAt.len (h : MapAt w P k b l) (ty : TypeId) (ht : P.underlying t = some (.map k e)) : (Builtin.len_ #[t] ty #[.map (some b)]).run P w = .ok (.int .i64 (l.length : Int)) w := by
  obtain ⟨es, clock, hb, hs, rfl, hk⟩ := h
  simp [Builtin.len_, run_underlying ht, MapKept.run_getObj_map hb, goInt]

/-! ### a range over it -/
/-- Block r is an iterator over the map of block b, which holds l; 'left' is still to come. -/
def RangeAt (w : World) (P : Program) (k : TypeId) (b r : Nat) (l left : List (Value × Value)) : Prop :=
  ∃ es clock since seen c0, w.heap[b]? = some (.map es clock) ∧ MapKept.Stamped es clock ∧ es.toList.map (fun e => (e.key, e.val)) = l ∧ (∀ p ∈ l, IsK P k p.1) ∧
    w.heap[r]? = some (.mapIter (some b) since seen c0) ∧ (∀ x ∈ es.toList, x.born < since) ∧ since ≤ c0 ∧ since ≤ clock ∧ (leftOf es seen).toList.map (fun e => (e.key, e.val)) = left

theorem RangeAt.map {r : Nat} {left : List (Value × Value)} (h : RangeAt w P k b r l left) : MapAt w P k b l := by
  obtain ⟨es, clock, since, seen, c0, h1, h2, h3, h4, _⟩ := h
  exact ⟨es, clock, h1, h2, h3, h4⟩
theorem RangeAt.lt {r : Nat} {left : List (Value × Value)} (h : RangeAt w P k b r l left) : r < w.heap.size := by
  obtain ⟨es, clock, since, seen, c0, h1, h2, h3, h4, h5, _⟩ := h
  exact lt_of_heap h5
theorem RangeAt.turned {r : Nat} {left : List (Value × Value)} {S : Nat → Prop} (h : RangeAt w P k b r l left) (hT : Turned S w w') (hb : ¬ S b) (hr : ¬ S r) : RangeAt w' P k b r l left := by
  have h1 := h.map.lt
  have h2 := h.lt
  obtain ⟨es, clock, since, seen, c0, a1, a2, a3, a4, a5, a6⟩ := h
  exact ⟨es, clock, since, seen, c0, (hT.block b h1 hb).trans a1, a2, a3, a4, (hT.block r h2 hr).trans a5, a6⟩
theorem RangeAt.blk_ne {r g : Nat} {ty : TypeId} {cs : Array Value} {left : List (Value × Value)} (h : RangeAt w P k b r l left) (hg : Blk w g ty cs) : g ≠ r := by
  rintro rfl
  obtain ⟨es, clock, since, seen, c0, a1, a2, a3, a4, a5, a6⟩ := h
  unfold Blk at hg
  rw [a5] at hg
  cases hg
theorem RangeAt.map_ne {r b' k' : Nat} {l' left : List (Value × Value)} (h : RangeAt w P k b r l left) (hm : MapAt w P k' b' l') : b' ≠ r := by
  rintro rfl
  obtain ⟨es, clock, since, seen, c0, a1, a2, a3, a4, a5, a6⟩ := h
  obtain ⟨es', clock', b1, _⟩ := hm
  rw [a5] at b1
  cases b1

theorem leftOf_nil (es : Array MapEntry) : leftOf es #[] = es := by
  unfold leftOf
  rw [Array.filter_eq_self]
  simp
theorem MapAt.range (h : MapAt w P k b l) (ht : P.underlying t = some (.map k e)) :
    ∃ w2, (Instr.range t (.map (some b))).run P w = .ok (.pointer (some ⟨w.heap.size, 0, none⟩)) w2 ∧ RangeAt w2 P k b w.heap.size l l ∧ Kept w w2 ∧ w2.heap.size = w.heap.size + 1 := by
  have hlt := h.lt
  obtain ⟨es, clock, hb, hs, hl, hk⟩ := h
  refine ⟨_, run_range_map w t k e b es clock ht hb, ⟨es, clock, clock, #[], clock, ?_, hs, hl, hk, heap_alloc_new w _, ((MapKept.stamped_iff es clock).1 hs).1, Nat.le_refl _, Nat.le_refl _, by rw [leftOf_nil]; exact hl⟩, (Turned.refl _ w).alloc _, by simp⟩
  rw [heap_alloc_old w _ hlt]
  exact hb

theorem mem_leftOf {es : Array MapEntry} {seen : Array Nat} {x : MapEntry} : x ∈ (leftOf es seen).toList ↔ x ∈ es.toList ∧ x.born ∉ seen := by
  unfold leftOf
  simp
theorem leftOf_push_lt {es : Array MapEntry} {seen : Array Nat} {e0 : MapEntry} (h : e0 ∈ (leftOf es seen).toList) : (leftOf es (seen.push e0.born)).toList.length < (leftOf es seen).toList.length := by
  have he : (leftOf es (seen.push e0.born)).toList = (leftOf es seen).toList.filter (fun x => !(x.born == e0.born)) := by
    unfold leftOf
    simp only [Array.toList_filter, List.filter_filter]
    congr 1
    funext x
    simp only [Array.contains_push]
    cases seen.contains x.born <;> cases (x.born == e0.born) <;> rfl
  rw [he]
  exact List.length_filter_lt_length_iff_exists.2 ⟨e0, h, by simp⟩

/-- THE STEP: nothing is left; or one of those that are left comes out. -/
theorem RangeAt.next {r : Nat} {left : List (Value × Value)} (h : RangeAt w P k b r l left) (ty : TypeId) :
    (left = [] ∧ (Instr.next (.pointer (some ⟨r, 0, none⟩)) false ty).run P w = .ok (.tuple #[.bool false]) w) ∨
    ∃ p ∈ left, ∃ w2 left', (Instr.next (.pointer (some ⟨r, 0, none⟩)) false ty).run P w = .ok (.tuple #[.bool true, p.1, p.2]) w2 ∧ RangeAt w2 P k b r l left' ∧ left'.length < left.length ∧ (∀ q, q ∈ left' ↔ q ∈ left ∧ q.1 ≠ p.1) ∧ p ∈ l ∧
      Turned (fun i => i = r) w w2 ∧ w2.heap.size = w.heap.size ∧ (Instr.entry (.pointer (some ⟨r, 0, none⟩))).run P w2 = .ok (.tuple #[p.1, p.2]) w2 := by
  have hmap := h.map
  have hbr : b ≠ r := h.map_ne hmap
  obtain ⟨es, clock, since, seen, c0, h1, h2, h3, h4, h5, h6, h7, hsc, h8⟩ := h
  have hst := (MapKept.stamped_iff es clock).1 h2
  rcases run_next_at (P := P) w ty r b since c0 seen es clock h5 h1 h6 h7 with ⟨h0, hrun⟩ | ⟨e0, he0, w1, hw1, hrun⟩
  · left
    refine ⟨?_, hrun⟩
    rw [← h8]
    have : (leftOf es seen) = #[] := Array.eq_empty_of_size_eq_zero h0
    rw [this]
    rfl
  · right
    have hbw : w1.heap[b]? = some (.map es clock) := by rcases hw1 with rfl | rfl <;> exact h1
    have hrw : w1.heap[r]? = some (.mapIter (some b) since seen c0) := by rcases hw1 with rfl | rfl <;> exact h5
    have hT1 : Turned (fun i => i = r) w w1 := by
      rcases hw1 with rfl | rfl
      · exact Turned.refl _ _
      · exact (Turned.refl _ w).drew
    have hs1 : w1.heap.size = w.heap.size := by rcases hw1 with rfl | rfl <;> rfl
    have hr2 : (setBlock w1 r (.mapIter (some b) since (seen.push e0.born) clock)).heap[r]? = some (.mapIter (some b) since (seen.push e0.born) clock) := by
      have := lt_of_heap hrw
      simp [setBlock, this]
    have hb2 : (setBlock w1 r (.mapIter (some b) since (seen.push e0.born) clock)).heap[b]? = some (.map es clock) := by
      simp only [setBlock]
      rw [Array.getElem?_setIfInBounds_ne (Ne.symm hbr)]
      exact hbw
    have hin : e0 ∈ es.toList := (mem_leftOf.1 he0).1
    refine ⟨(e0.key, e0.val), ?_, _, (leftOf es (seen.push e0.born)).toList.map (fun e => (e.key, e.val)), hrun, ⟨es, clock, since, seen.push e0.born, clock, hb2, h2, h3, h4, hr2, h6, hsc, hsc, rfl⟩, ?_, ?_, ?_, hT1.setBlock (g := r) (fun _ => rfl) _, by simp [setBlock, hs1], run_entry_at _ r b since seen es clock e0 hr2 hb2 hin hst.2.1⟩
    · rw [← h8]
      exact List.mem_map.2 ⟨e0, he0, rfl⟩
    · rw [← h8, List.length_map, List.length_map]
      exact leftOf_push_lt he0
    · intro q
      rw [← h8]
      constructor
      · intro hq
        obtain ⟨x, hx, rfl⟩ := List.mem_map.1 hq
        obtain ⟨hx1, hx2⟩ := mem_leftOf.1 hx
        have hx3 : x.born ∉ seen ∧ x.born ≠ e0.born := by simpa using hx2
        refine ⟨List.mem_map.2 ⟨x, mem_leftOf.2 ⟨hx1, hx3.1⟩, rfl⟩, fun hk => hx3.2 ?_⟩
        have := List.Pairwise.forall_of_forall_of_flip (R := fun x y : MapEntry => x.key = y.key → x = y) (fun _ _ _ => rfl) (hst.2.2.imp (fun hne e => absurd e hne)) (hst.2.2.imp (fun hne e => absurd e.symm hne)) hx1 hin hk
        rw [this]
      · rintro ⟨hq, hne⟩
        obtain ⟨x, hx, rfl⟩ := List.mem_map.1 hq
        obtain ⟨hx1, hx2⟩ := mem_leftOf.1 hx
        refine List.mem_map.2 ⟨x, mem_leftOf.2 ⟨hx1, ?_⟩, rfl⟩
        have hborn : x.born ≠ e0.born := fun hb => hne (by
          have hnd : es.toList.Pairwise (fun x y => x.born ≠ y.born) := by
            have := hst.2.1
            rw [List.Nodup, List.pairwise_map] at this
            exact this
          have := List.Pairwise.forall_of_forall_of_flip (R := fun x y : MapEntry => x.born = y.born → x = y) (fun _ _ _ => rfl) (hnd.imp (fun hne e => absurd e hne)) (hnd.imp (fun hne e => absurd e.symm hne)) hx1 hin hb
          rw [this])
        simp [hx2, hborn]
    · exact mem_es h3 hin
end

/-! ### at the operation -/
section
variable {P : Program} (w : World) {ops : Array Oper} {rest : List Oper} {o : Oper} {a : Act} {Q : Exit → Act → World → Prop}
theorem wpList_wanted (hw : Region.wanted o (yielded ops a.tmps) = true) (h : ∀ K : Act → World → Prop, (∀ a w, wpList P ops Q rest a w → K a w) → o.wp P a w K Q) : wpList P ops Q (o :: rest) a w :=
  wpList_step fun K hK => by rw [if_pos hw]; exact h K hK
theorem wpList_len_raw (hg : Region.wanted o (yielded ops a.tmps) = true) (m : Operand) (t : TypeId) (hop : o.op = Op.call { callee := Callee.builtin Builtin.len, args := #[m], argTypes := #[t] }) (k e : TypeId) (ht : P.underlying t = some (.map k e)) (b : Nat) (l : List (Value × Value)) (n : Nat) (hn : l.length = n)
    (hm : a.eval m = .map (some b)) (h : MapAt w P k b l) (hK : wpList P ops Q rest (a.put o.dst (.int .i64 (n : Int))) w) : wpList P ops Q (o :: rest) a w := by
  subst hn
  refine wpList_wanted w hg fun K' hK' => ?_
  have hrun := h.len o.type ht
  unfold Oper.wp execOp
  simp only [hop, resolve, invoke, builtin, Sem.run_bind, Sem.run_pure, Result.andThen_ok, List.map_toArray, List.map_cons, List.map_nil, hm, hrun]
  exact hK' _ _ hK
theorem wpList_range_raw (hg : o.guard = none) (m : Operand) (t : TypeId) (hop : o.op = Op.range t m) (k e : TypeId) (ht : P.underlying t = some (.map k e)) (b : Nat) (l : List (Value × Value))
    (hm : a.eval m = .map (some b)) (h : MapAt w P k b l) (hK : ∀ w2, RangeAt w2 P k b w.heap.size l l → Kept w w2 → w2.heap.size = w.heap.size + 1 → wpList P ops Q rest (a.put o.dst (.pointer (some ⟨w.heap.size, 0, none⟩))) w2) : wpList P ops Q (o :: rest) a w := by
  refine wpList_plain hg fun K' hK' => ?_
  obtain ⟨w2, hrun, h1, h2, h3⟩ := h.range ht
  unfold Oper.wp
  simp [execOp, hop, hm, hrun, Result.andThen]
  exact hK' _ _ (hK w2 h1 h2 h3)
/-- What is to be shown where one more comes: under a name, so that the walk leaves it as it stands. -/
def NextMore (P : Program) (k b r : Nat) (l left : List (Value × Value)) (w : World) (G : Value → World → Prop) : Prop :=
  ∀ p w2 left', p ∈ left → p ∈ l → RangeAt w2 P k b r l left' → left'.length < left.length → (∀ q, q ∈ left' ↔ q ∈ left ∧ q.1 ≠ p.1) → Turned (fun i => i = r) w w2 → w2.heap.size = w.heap.size →
      (Instr.entry (.pointer (some ⟨r, 0, none⟩))).run P w2 = .ok (.tuple #[p.1, p.2]) w2 → G (.tuple #[.bool true, p.1, p.2]) w2
theorem wpList_next_raw (hg : o.guard = none) (it : Operand) (hop : o.op = Op.next it false) (k b r : Nat) (l left : List (Value × Value)) (hit : a.eval it = .pointer (some ⟨r, 0, none⟩)) (h : RangeAt w P k b r l left)
    (hDone : left = [] → wpList P ops Q rest (a.put o.dst (.tuple #[.bool false])) w)
    (hMore : NextMore P k b r l left w (fun v w2 => wpList P ops Q rest (a.put o.dst v) w2)) : wpList P ops Q (o :: rest) a w := by
  refine wpList_plain hg fun K' hK' => ?_
  unfold Oper.wp
  rcases h.next o.type with ⟨h0, hrun⟩ | ⟨p, hp, w2, left', hrun, h1, h2, h3, h4, h5, h6, h7⟩
  · simp [execOp, hop, hit, hrun, Result.andThen]
    exact hK' _ _ (hDone h0)
  · simp [execOp, hop, hit, hrun, Result.andThen]
    exact hK' _ _ (hMore p w2 left' hp h4 h1 h2 h3 h5 h6 h7)
end
end Go.Proofs.Ytnicfiochnkjbaa
