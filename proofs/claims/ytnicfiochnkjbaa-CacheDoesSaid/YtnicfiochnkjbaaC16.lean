/- The cache as its laws see it. -/
import Derived.Test.YtnicfiochnkjbaaC15
namespace Go.Proofs.Ytnicfiochnkjbaa
open Go.RowKit

/-! ### answers, used longest ago first -/
def dropX (q : Qu) (X : List Ent) : List Ent := X.filter (fun x => !quEq x.q q)
def trimX (room : Int) (X : List Ent) : List Ent := if room ≤ (X.length : Int) then X.tail else X
def putX (room : Int) (X : List Ent) (x : Ent) : List Ent := trimX room (dropX x.q X) ++ [x]
def findX (q : Qu) (X : List Ent) : Option Ent := X.find? (fun x => quEq x.q q)
def hitX (q : Qu) (ver turn t : Int) (X : List Ent) : Option Ent :=
  if setR q.who then match findX q X with
    | some x => if fresh x ver turn t then some x else none
    | none => none
  else none
def getX (q : Qu) (ver turn t : Int) (X : List Ent) : List Ent :=
  if setR q.who then match findX q X with
    | some x => if fresh x ver turn t then dropX q X ++ [x] else dropX q X
    | none => X
  else X
def forgetX (ob : Int) (X : List Ent) : List Ent := X.filter (fun x => decide (x.q.obj ≠ ob))
def putXE (room : Int) (X : List Ent) (x : Ent) : List Ent := if putE x.q.who x.told = 0 then putX room X x else X

section
variable {Y : List (Ent × Int)} {q : Qu} {ver turn t uses room : Int} {x : Ent} {ob : Int}
theorem drop_fst : (dropY q Y).map Prod.fst = dropX q (Y.map Prod.fst) := by
  unfold dropY dropX
  rw [List.filter_map]
  rfl
theorem trim_fst : (trimY room Y).map Prod.fst = trimX room (Y.map Prod.fst) := by
  unfold trimY trimX
  rw [List.length_map]
  split
  · cases Y <;> rfl
  · rfl
theorem put_fst : (putY room uses Y x).map Prod.fst = putX room (Y.map Prod.fst) x := by
  unfold putY putX
  rw [List.map_append, trim_fst, drop_fst]
  rfl
theorem find_fst : (findY q Y).map Prod.fst = findX q (Y.map Prod.fst) := by
  unfold findY findX
  rw [List.find?_map]
  rfl
theorem hit_fst : hitY q ver turn t Y = hitX q ver turn t (Y.map Prod.fst) := by
  unfold hitY hitX
  rw [← find_fst]
  cases findY q Y <;> rfl
theorem get_fst : (getY q ver turn t uses Y).map Prod.fst = getX q ver turn t (Y.map Prod.fst) := by
  unfold getY getX
  rw [← find_fst]
  split
  · rcases findY q Y with _ | y
    · rfl
    · show List.map Prod.fst (if fresh y.1 ver turn t then _ else _) = if fresh y.1 ver turn t then _ else _
      split
      · rw [List.map_append, drop_fst]
        rfl
      · exact drop_fst
  · rfl
theorem forget_fst : (forgetY ob Y).map Prod.fst = forgetX ob (Y.map Prod.fst) := by
  unfold forgetY forgetX
  rw [List.filter_map]
  rfl
end

/-- A cache that has been made since w: what it holds. -/
def CacheP (w wr : World) (p mb : Nat) (room : Int) (n : Nat) (X : List Ent) : Prop :=
  ∃ uses Y, CacheIs wr p mb room uses Y ∧ Y.map Prod.fst = X ∧ uses ≤ (n : Int) ∧ w.heap.size ≤ p ∧ w.heap.size ≤ mb ∧ Kept w wr
section
variable {w wr w' : World} {p mb n : Nat} {room : Int} {X : List Ent}
theorem CacheP.kept (h : CacheP w wr p mb room n X) (hK : Kept wr w') : CacheP w w' p mb room n X := by
  obtain ⟨uses, Y, h1, h2, h3, h4, h5, h6⟩ := h
  exact ⟨uses, Y, h1.kept hK, h2, h3, h4, h5, h6.to hK⟩
theorem CacheP.beside {S : Nat → Prop} (h : CacheP w wr p mb room n X) (hT : Turned S wr w') (h1 : ¬ S p) (h2 : ¬ S mb) (h3 : ∀ k, S k → w.heap.size ≤ k) : CacheP w w' p mb room n X := by
  obtain ⟨uses, Y, g1, g2, g3, g4, g5, g6⟩ := h
  exact ⟨uses, Y, g1.turned hT h1 h2, g2, g3, g4, g5, g6.then_ hT (fun i hi h => by have := h3 i h; omega)⟩
theorem CacheP.since (h : CacheP w wr p mb room n X) : Kept w wr := by
  obtain ⟨uses, Y, g1, g2, g3, g4, g5, g6⟩ := h
  exact g6
theorem CacheP.lt (h : CacheP w wr p mb room n X) : p < wr.heap.size ∧ mb < wr.heap.size ∧ w.heap.size ≤ p ∧ w.heap.size ≤ mb := by
  obtain ⟨uses, Y, g1, g2, g3, g4, g5, g6⟩ := h
  exact ⟨g1.lt.1, g1.lt.2, g4, g5⟩
theorem CacheP.more (h : CacheP w wr p mb room n X) {m : Nat} (hm : n ≤ m) : CacheP w wr p mb room m X := by
  obtain ⟨uses, Y, g1, g2, g3, g4, g5, g6⟩ := h
  exact ⟨uses, Y, g1, g2, by omega, g4, g5, g6⟩
theorem CacheP.step {uses : Int} {Y : List (Ent × Int)} (h6 : Kept w wr) (h4 : w.heap.size ≤ p) (h5 : w.heap.size ≤ mb) (hC : CacheIs w' p mb room uses Y) (hu : uses ≤ (n : Int)) (hT : Turned (CFoot p mb) wr w') : CacheP w w' p mb room n (Y.map Prod.fst) :=
  ⟨uses, Y, hC, rfl, hu, h4, h5, h6.then_ hT (fun i hi h => by rcases h with rfl | rfl <;> omega)⟩

variable {ob op ver turn a till t : Int} {A : Option Addr} {c : Nat} {who : List ByteArray}
theorem put_pk (h : CacheP w wr p mb room n X) (hroom : 1 ≤ room) (hn : n ≤ 9000000000000000000 ∨ (X.length : Int) < room) (hX : X.length ≤ 1000000) (hl : who.length ≤ 1000) (hs : ∀ s ∈ who, s.size ≤ 1000000) (hr : ReadsT Value.string wr wr.heap.size 1 A who) (ho : i64 ob) (hop : i64 op) :
    Calls Try.prog 16 #[.pointer (some ⟨p, 0, none⟩), .agg #[.int .i64 ob, .int .i64 op, .slice A who.length c, .int .i64 ver, .int .i64 turn], .int .i64 a, .int .i64 till] wr fun e w' =>
      e = .returned (.int .i64 (putE who a)) ∧ CacheP w w' p mb room (n + 1) (putXE room X ⟨⟨ob, op, who⟩, a, ver, turn, till⟩) ∧ Turned (CFoot p mb) wr w' := by
  obtain ⟨uses, Y, g1, rfl, g3, g4, g5, g6⟩ := h
  rw [List.length_map] at hX hn
  refine (put_any g1 hroom (hn.imp (fun h => by omega) (fun h => h)) hX ob op ver turn a till A c who hl hs hr ho hop).mono fun e w' ⟨h1, h2, h3⟩ => ⟨h1, ?_, h3⟩
  unfold putXE
  simp only at h2 ⊢
  split
  · rename_i he
    rw [if_pos he] at h2
    rw [← put_fst (uses := uses)]
    exact CacheP.step g6 g4 g5 h2 (by omega) h3
  · rename_i he
    rw [if_neg he] at h2
    exact CacheP.step g6 g4 g5 h2 (by omega) h3
theorem put_p (h : CacheP w wr p mb room n X) (hroom : 1 ≤ room) (hn : n ≤ 9000000000000000000) (hX : X.length ≤ 1000000) (hl : who.length ≤ 1000) (hs : ∀ s ∈ who, s.size ≤ 1000000) (hr : ReadsT Value.string wr wr.heap.size 1 A who) (ho : i64 ob) (hop : i64 op) :
    Calls Try.prog 16 #[.pointer (some ⟨p, 0, none⟩), .agg #[.int .i64 ob, .int .i64 op, .slice A who.length c, .int .i64 ver, .int .i64 turn], .int .i64 a, .int .i64 till] wr fun e w' =>
      e = .returned (.int .i64 (putE who a)) ∧ CacheP w w' p mb room (n + 1) (putXE room X ⟨⟨ob, op, who⟩, a, ver, turn, till⟩) ∧ Turned (CFoot p mb) wr w' :=
  put_pk h hroom (.inl hn) hX hl hs hr ho hop
theorem get_pk (h : CacheP w wr p mb room n X) (hl : who.length ≤ 1000) (hs : ∀ s ∈ who, s.size ≤ 1000000) (hr : ReadsT Value.string wr wr.heap.size 1 A who) (ho : i64 ob) (hop : i64 op) :
    Calls Try.prog 18 #[.pointer (some ⟨p, 0, none⟩), .agg #[.int .i64 ob, .int .i64 op, .slice A who.length c, .int .i64 ver, .int .i64 turn], .int .i64 t] wr fun e w' =>
      e = .returned (.tuple #[.int .i64 (toldR (hitX ⟨ob, op, who⟩ ver turn t X)), .bool (hitX ⟨ob, op, who⟩ ver turn t X).isSome]) ∧ CacheP w w' p mb room (n + 1) (getX ⟨ob, op, who⟩ ver turn t X) ∧ Turned (CFoot p mb) wr w' := by
  obtain ⟨uses, Y, g1, rfl, g3, g4, g5, g6⟩ := h
  refine (get_any g1 ob op ver turn t A c who hl hs hr ho hop).mono fun e w' ⟨h1, h2, h3⟩ => ⟨?_, ?_, h3⟩
  · rw [h1, hit_fst]
  · rw [← get_fst (uses := uses)]
    refine CacheP.step g6 g4 g5 h2 ?_ h3
    unfold getU
    split <;> omega
theorem get_p (h : CacheP w wr p mb room n X) (_hn : n ≤ 9000000000000000000) (hl : who.length ≤ 1000) (hs : ∀ s ∈ who, s.size ≤ 1000000) (hr : ReadsT Value.string wr wr.heap.size 1 A who) (ho : i64 ob) (hop : i64 op) :
    Calls Try.prog 18 #[.pointer (some ⟨p, 0, none⟩), .agg #[.int .i64 ob, .int .i64 op, .slice A who.length c, .int .i64 ver, .int .i64 turn], .int .i64 t] wr fun e w' =>
      e = .returned (.tuple #[.int .i64 (toldR (hitX ⟨ob, op, who⟩ ver turn t X)), .bool (hitX ⟨ob, op, who⟩ ver turn t X).isSome]) ∧ CacheP w w' p mb room (n + 1) (getX ⟨ob, op, who⟩ ver turn t X) ∧ Turned (CFoot p mb) wr w' :=
  get_pk h hl hs hr ho hop
theorem len_p (h : CacheP w wr p mb room n X) :
    Calls Try.prog 17 #[.pointer (some ⟨p, 0, none⟩)] wr fun e w' => e = .returned (.int .i64 (X.length : Int)) ∧ wr = w' := by
  obtain ⟨uses, Y, g1, rfl, g3, g4, g5, g6⟩ := h
  rw [List.length_map]
  exact len_cache g1
theorem clear_p (h : CacheP w wr p mb room n X) :
    Calls Try.prog 25 #[.pointer (some ⟨p, 0, none⟩)] wr fun e w' => e = .returned (.tuple #[]) ∧ CacheP w w' p mb room n [] ∧ Turned (CFoot p mb) wr w' := by
  obtain ⟨uses, Y, g1, rfl, g3, g4, g5, g6⟩ := h
  refine (clear_cache g1).mono fun e w' ⟨h1, h2, h3⟩ => ⟨h1, ?_, h3.mono (fun i _ h => .inr h)⟩
  exact CacheP.step g6 g4 g5 h2 g3 (h3.mono (fun i _ h => .inr h))
theorem forget_p (h : CacheP w wr p mb room n X) (hX : X.length ≤ 1000000) :
    Calls Try.prog 19 #[.pointer (some ⟨p, 0, none⟩), .int .i64 ob] wr fun e w' => e = .returned (.int .i64 ((X.length : Int) - ((forgetX ob X).length : Int))) ∧ CacheP w w' p mb room n (forgetX ob X) ∧ Turned (CFoot p mb) wr w' := by
  obtain ⟨uses, Y, g1, rfl, g3, g4, g5, g6⟩ := h
  rw [List.length_map] at hX
  refine (forget_any g1 ob hX).mono fun e w' ⟨h1, h2, h3⟩ => ⟨?_, ?_, h3.mono (fun i _ h => .inr h)⟩
  · rw [h1, ← forget_fst, List.length_map, List.length_map]
  · rw [← forget_fst]
    exact CacheP.step g6 g4 g5 h2 g3 (h3.mono (fun i _ h => .inr h))
end
/-- What New tells, to the laws. -/
def NewP (room : Int) (w wr : World) (e : Ending) (w' : World) : Prop :=
  ((room < 1 ∨ 100 < room) ∧ e = .returned (.pointer none) ∧ wr = w') ∨ (1 ≤ room ∧ room ≤ 100) ∧ ∃ p mb, e = .returned (.pointer (some ⟨p, 0, none⟩)) ∧ CacheP w w' p mb room 0 [] ∧ Kept wr w' ∧ wr.heap.size ≤ p ∧ wr.heap.size ≤ mb
theorem new_p {w wr : World} {room : Int} (hK : Kept w wr) (hr : i64 room) : Calls Try.prog 14 #[.int .i64 room] wr (NewP room w wr) := by
  refine (new_cache room wr hr).mono fun e w' h => ?_
  rcases h with h | ⟨h1, p, mb, h2, h3, h4, h5, h6⟩
  · exact .inl h
  · have := hK.size
    exact .inr ⟨h1, p, mb, h2, ⟨0, [], h3, rfl, by omega, by omega, by omega, hK.to h4⟩, h4, h5, h6⟩

/-! ### how many there are -/
theorem dropX_len (q : Qu) (X : List Ent) : (dropX q X).length ≤ X.length := List.length_filter_le _ _
theorem putX_len {room : Int} {X : List Ent} {x : Ent} (hr : 1 ≤ room) (h : (X.length : Int) ≤ room) : ((putX room X x).length : Int) ≤ room := by
  unfold putX trimX
  have := dropX_len x.q X
  rw [List.length_append, List.length_singleton]
  split
  · rw [List.length_tail]
    omega
  · omega
theorem forgetX_len (ob : Int) (X : List Ent) : (forgetX ob X).length ≤ X.length := List.length_filter_le _ _
end Go.Proofs.Ytnicfiochnkjbaa
