/- The contracts of ledger's Bodies, Wrote, Macs. -/
import Derived.Test.YtkldepflfomegaaOps2
import Derived.Deep.LoopGhost
namespace Go.Proofs.Ytkldepflfomegaa
open Go.RowKit
open Go.Maps (Keyed)

def bodiesOf (S : List Sig) (k : Int) : List ByteArray := (S.filter (fun x => decide (x.1 = k))).map (·.2)

theorem bodies_yes {S : List Sig} {k : Int} {j : Nat} (hj : j < S.length) (h : S[j].1 = k) : bodiesOf (S.take (j + 1)) k = bodiesOf (S.take j) k ++ [S[j].2] := by
  unfold bodiesOf
  rw [List.take_succ_eq_append_getElem hj, List.filter_append, List.map_append]
  congr 1
  simp [h]
theorem bodies_no {S : List Sig} {k : Int} {j : Nat} (hj : j < S.length) (h : S[j].1 ≠ k) : bodiesOf (S.take (j + 1)) k = bodiesOf (S.take j) k := by
  unfold bodiesOf
  rw [List.take_succ_eq_append_getElem hj, List.filter_append, List.map_append]
  simp [h]
theorem bodies_le (S : List Sig) (k : Int) : (bodiesOf S k).length ≤ S.length := by
  simp only [bodiesOf, List.length_map]
  exact List.length_filter_le _ _

/-- The cells of an element of a row. -/
theorem own_at {w : World} {base e size n : Nat} {A : Option Addr} {c : Nat} {xs : List Value} (h : w.ownsRow base e size (.slice A n c) n xs) {j : Nat} (hj : j < n) : ∃ g, A = some ⟨g, 0, none⟩ ∧ g < w.heap.size ∧ ∀ i, i < size → w.cell? ⟨g, j * size + i, none⟩ = xs[j * size + i]? := by
  rcases h.2 with ⟨h, h0⟩ | ⟨g, cap, cur, hv, _, hh, hnc, _, hsz, ht⟩
  · omega
  · injection hv with hA _ hc
    subst hA hc
    refine ⟨g, rfl, lt_of_heap hh, fun i hi => ?_⟩
    rw [cell_of_row w g _ cur e (0, 0) hh, ← ht]
    rw [List.getElem?_take_of_lt (by
      have : (j + 1) * size ≤ n * size := Nat.mul_le_mul_right _ hj
      rw [Nat.add_mul] at this; omega)]
    simp

theorem flat_at {α β : Type} (f : α → List β) (size : Nat) : ∀ (xs : List α), (∀ x ∈ xs, (f x).length = size) → ∀ j i, i < size → (xs.flatMap f)[j * size + i]? = (xs[j]?).bind fun x => (f x)[i]?
  | [], _, j, i, _ => by simp
  | x :: xs, h, 0, i, hi => by
    have hx : (f x).length = size := h x (by simp)
    simp only [List.flatMap_cons, Nat.zero_mul, Nat.zero_add, List.getElem?_cons_zero, Option.bind_some]
    rw [List.getElem?_append_left (by omega)]
  | x :: xs, h, j + 1, i, hi => by
    have hx : (f x).length = size := h x (by simp)
    simp only [List.flatMap_cons, List.getElem?_cons_succ]
    rw [List.getElem?_append_right (by rw [hx, Nat.add_mul]; omega), hx]
    have e : (j + 1) * size + i - size = j * size + i := by rw [Nat.add_mul]; omega
    rw [e]
    exact flat_at f size xs (fun y hy => h y (by simp [hy])) j i hi

/-- .. where the row is a list of plain things. -/
theorem own_elem {α : Type} (V : α → Value) {w : World} {base e size : Nat} {A : Option Addr} {c : Nat} {xs : List α} (hV : ∀ x, (V x).cells.size = size) (h : w.ownsRow base e size (.slice A xs.length c) xs.length ((xs.map V).flatMap (·.cells.toList))) {j : Nat} (hj : j < xs.length) :
    ∃ g, A = some ⟨g, 0, none⟩ ∧ g < w.heap.size ∧ ∀ i, i < size → w.cell? ⟨g, j * size + i, none⟩ = (V xs[j]).cells[i]? := by
  obtain ⟨g, h1, h2, h3⟩ := own_at h hj
  refine ⟨g, h1, h2, fun i hi => ?_⟩
  rw [h3 i hi, flat_at _ size _ (by
    intro x hx
    obtain ⟨y, _, rfl⟩ := List.mem_map.1 hx
    simpa using hV y) j i hi, List.getElem?_map, List.getElem?_eq_getElem hj]
  simp

theorem info_string : (Try.prog.info? 9).map (fun i => (i.zero, i.size, i.bytes)) = some (some (.string ⟨#[]⟩), 1, 16) := by kernel_rfl

set_option maxRecDepth 100000 in
set_option maxHeartbeats 1000000 in
theorem bodies_any (F : Nat → Prop) (p : Nat) (S : List Sig) (M : List Made) (T : List Int) (k : Int) (w : World) (hl : S.length ≤ 2000) (h : BookAt w F p S M T) :
    Calls Try.prog 28 #[.pointer (some ⟨p, 0, none⟩), .int .u16 k] w fun e w' => ∃ v, e = .returned v ∧ w'.ownsRow w.heap.size 9 1 v (bodiesOf S k).length ((bodiesOf S k).map .string) ∧ Kept w w' := by
  obtain ⟨i0, hi0, hz0, hz1, hz2⟩ := info_parts info_string
  obtain ⟨s1, m1, s2, m2, s3, m3, hB, hf⟩ := h
  obtain ⟨A, c, rfl⟩ := own_slice hB.r1.own
  have HO := hB.r1.own
  simp only [List.length_map] at HO ⊢
  have q0 := hB.blk.cell 0
  simp at q0
  have hlt := hB.blk.lt
  clear hB hf
  go_enter Try.func28, Try.ntmps28
  go_wp2_with fail
  go_loopg [5, 14] S.length (fun gk v i wr => ∃ j : Nat, j + gk = S.length ∧ i = .int .i64 j ∧ wr.ownsRow w.heap.size 9 1 v (bodiesOf (S.take j) k).length ((bodiesOf (S.take j) k).map .string) ∧ Kept w wr)
  case atStart => exact ⟨0, Nat.zero_add _, rfl, ⟨rfl, .inl ⟨rfl, rfl⟩⟩, Turned.refl _ _⟩
  case round =>
    obtain ⟨j, hj, rfl, hown, hK⟩ := hrel
    by_cases hjl : j < S.length
    · obtain ⟨g, rfl, hg, hc⟩ := own_elem sigV (fun _ => rfl) (own_turned HO hK (fun _ _ h => h)) hjl
      have c0 : wr.cell? ⟨g, j * 2, none⟩ = some (.int .u16 S[j].1) := hc 0 (by omega)
      have c1 : wr.cell? ⟨g, j * 2 + 1, none⟩ = some (.string S[j].2) := hc 1 (by omega)
      clear hc
      by_cases hkj : S[j].1 = k
      · have hkb : (S[j].1 == k) = true := by simpa using hkj
        have HE := Lib.hid (bodies_yes hjl hkj)
        have hbl : (bodiesOf (S.take j) k).length ≤ j := Nat.le_trans (bodies_le _ _) (List.length_take_le _ _)
        have hsz := hK.size
        clear hkj
        go_wp2_with (at_builtin; refine wpList_append_lies _ (by rfl) _ _ _ (by rfl) w.heap.size 9 i0 _ 1 16 Try.underlying53 hi0 hz0 hz1 hz2 rfl (by omega) u5 _ _ (by rfl) ((hown.alloc _).alloc _) ⟨wr.heap.size + 1, 0, none⟩ 1 1 [.string S[j].2] (by rfl) (by rfl) (World.news_of_block (cs := #[.string S[j].2]) (t := 9) (fr := (0, 0)) (by simpa using heap_alloc_new (wr.alloc _) _)) (by simp [Value.oneCell']) (by omega) (by unfold maxLen; omega) (by omega) (by simp; omega) (wr.heap.size + 2) (by simp) ?_; intro gg cap w3 O3 hg3 hat hlt3)
        go_roundg (gk - 1)
        case measure => omega
        case rel =>
          refine ⟨j + 1, by omega, by go_num, ?_, ?_⟩
          · rw [HE.out]; simpa using O3
          · exact (((hK.alloc _).alloc _).grown hg3 (fun k h hk => absurd (own_base hown h) (by omega)))
      · have hkb : (S[j].1 == k) = false := by simpa using hkj
        have HE := Lib.hid (bodies_no hjl hkj)
        clear hkj
        go_wp2_with fail
        go_roundg (gk - 1)
        case measure => omega
        case rel => exact ⟨j + 1, by omega, by go_num, by rw [HE.out]; exact hown.alloc _, hK.alloc _⟩
    · have hjj : j = S.length := by omega
      subst hjj
      go_wp2_with fail
      go_ret
      exact ⟨_, rfl, by simpa using hown, hK⟩
end Go.Proofs.Ytkldepflfomegaa
