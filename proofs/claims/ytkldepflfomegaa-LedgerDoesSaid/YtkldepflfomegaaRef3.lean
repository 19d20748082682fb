/- The contracts of the reference's Bodies, Wrote and Macs. -/
import Derived.Test.YtkldepflfomegaaRef2
namespace Go.Proofs.Ytkldepflfomegaa
open Go.RowKit
open Go.Maps (Keyed)

theorem own_empty (w : World) (base e size : Nat) (hb : base ≤ w.heap.size) : (w.alloc (.cells #[] e)).ownsRow base e size (.slice (some ⟨w.heap.size, 0, none⟩) 0 0) 0 [] :=
  ⟨by simp, .inr ⟨w.heap.size, 0, #[], rfl, hb, heap_alloc_new w _, Nat.le_refl _, by simp [maxLen], by simp, by simp⟩⟩

set_option maxRecDepth 100000 in
set_option maxHeartbeats 1000000 in
theorem rbodies_any (p : Nat) (s1 s2 s3 : Value) (S : List Sig) (M : List Made) (T : List Int) (k : Int) (w : World) (hl : S.length ≤ 2000) (h : RefIs w p s1 s2 s3 S M T) :
    Calls Try.prog 29 #[.pointer (some ⟨p, 0, none⟩), .int .u16 k] w fun e w' => ∃ v, e = .returned v ∧ w'.ownsRow w.heap.size 9 1 v (bodiesOf S k).length ((bodiesOf S k).map .string) ∧ Kept w w' := by
  obtain ⟨i0, hi0, hz0, hz1, hz2⟩ := info_parts info_string
  obtain ⟨A, c, rfl⟩ := own_slice h.r1
  have HO := h.r1
  have HB := h.blk
  have hE := own_empty w w.heap.size 9 1 (Nat.le_refl _)
  clear h
  go_enter Try.func29, Try.ntmps29
  go_wp2_with fail
  go_loopg [5, 6] S.length (fun gk v i wr => ∃ j : Nat, j + gk = S.length ∧ i = .int .i64 j ∧ wr.ownsRow w.heap.size 9 1 v (bodiesOf (S.take j) k).length ((bodiesOf (S.take j) k).map .string) ∧ Kept w wr)
  case atStart => exact ⟨0, Nat.zero_add _, rfl, hE, (Turned.refl _ _).alloc _⟩
  case round =>
    obtain ⟨j, hj, rfl, hown, hK⟩ := hrel
    have hB := HB.turned hK (fun h => h)
    have q0 := hB.cell 0
    simp at q0
    have hlt := hB.lt
    have hsz := hK.size
    by_cases hjl : j < S.length
    · obtain ⟨g, rfl, hg, hc⟩ := own_elem sigV (fun _ => rfl) (own_turned HO hK (fun _ _ h => h)) hjl
      have c0 : wr.cell? ⟨g, j * 2, none⟩ = some (.int .u16 S[j].1) := hc 0 (by omega)
      have c1 : wr.cell? ⟨g, j * 2 + 1, none⟩ = some (.string S[j].2) := hc 1 (by omega)
      have i1 : (j : Int) < (S.length : Int) := by omega
      have hbl : (bodiesOf (S.take j) k).length ≤ j := Nat.le_trans (bodies_le _ _) (List.length_take_le _ _)
      clear hc hE
      by_cases hkj : S[j].1 = k
      · have hkb : (S[j].1 == k) = true := by simpa using hkj
        have HE := Lib.hid (bodies_yes hjl hkj)
        clear hkj
        go_wp2_with (at_builtin; refine wpList_append_lies _ (by rfl) _ _ _ (by rfl) w.heap.size 9 i0 _ 1 16 Try.underlying53 hi0 hz0 hz1 hz2 rfl (by omega) u5 _ _ (by rfl) (hown.alloc _) ⟨wr.heap.size, 0, none⟩ 1 1 [.string S[j].2] (by rfl) (by rfl) (World.news_of_block (cs := #[.string S[j].2]) (t := 9) (fr := (0, 0)) (heap_alloc_new wr _)) (by simp [Value.oneCell']) (by omega) (by unfold maxLen; omega) (by omega) (by simp; omega) (wr.heap.size + 1) (by simp) ?_; intro gg cap w3 O3 hg3 hat hlt3)
        go_roundg (gk - 1)
        case measure => omega
        case rel =>
          refine ⟨j + 1, by omega, by go_num, ?_, ?_⟩
          · rw [HE.out]; simpa using O3
          · exact ((hK.alloc _).grown hg3 (fun k h hk => absurd (own_base hown h) (by omega)))
      · have hkb : (S[j].1 == k) = false := by simpa using hkj
        have HE := Lib.hid (bodies_no hjl hkj)
        clear hkj
        go_wp2_with fail
        go_roundg (gk - 1)
        case measure => omega
        case rel => exact ⟨j + 1, by omega, by go_num, by rw [HE.out]; exact hown, hK⟩
    · have hjj : j = S.length := by omega
      subst hjj
      clear hE
      go_wp2_with fail
      go_ret
      exact ⟨_, rfl, by simpa using hown, hK⟩

set_option maxRecDepth 100000 in
set_option maxHeartbeats 1000000 in
theorem rwrote_any (p : Nat) (s1 s2 s3 : Value) (S : List Sig) (M : List Made) (T : List Int) (a wy sq : Int) (s : ByteArray) (w : World) (hl : M.length ≤ 2000) (h : RefIs w p s1 s2 s3 S M T) :
    Calls Try.prog 24 #[.pointer (some ⟨p, 0, none⟩), .agg #[.int .u16 a, .int .i64 wy, .int .i64 sq, .string s]] w fun e w' => ∃ v, e = .returned v ∧ w'.ownsRow w.heap.size 3 1 v (wroteOf M (a, wy, sq, s)).length ((wroteOf M (a, wy, sq, s)).map (.int .i64)) ∧ Kept w w' := by
  obtain ⟨i0, hi0, hz0, hz1, hz2⟩ := info_parts info_int
  obtain ⟨A, c, rfl⟩ := own_slice h.r2
  have HO := h.r2
  have HB := h.blk
  have hE := own_empty (w.alloc (.cells #[.int .u16 a, .int .i64 wy, .int .i64 sq, .string s] 36)) w.heap.size 3 1 (by simp)
  simp at hE
  clear h
  go_enter Try.func24, Try.ntmps24
  go_wp2_with fail
  go_loopg [5, 6] M.length (fun gk v i wr => ∃ j : Nat, j + gk = M.length ∧ i = .int .i64 j ∧ wr.ownsRow w.heap.size 3 1 v (wroteOf (M.take j) (a, wy, sq, s)).length ((wroteOf (M.take j) (a, wy, sq, s)).map (.int .i64)) ∧ Blk wr w.heap.size 36 #[.int .u16 a, .int .i64 wy, .int .i64 sq, .string s] ∧ Kept w wr)
  case atStart => exact ⟨0, Nat.zero_add _, rfl, hE, (Blk.new w _ _).alloc _, ((Turned.refl _ _).alloc _).alloc _⟩
  case round =>
    obtain ⟨j, hj, rfl, hown, hX, hK⟩ := hrel
    have hB := HB.turned hK (fun h => h)
    have q0 := hB.cell 1
    simp at q0
    have hlt := hB.lt
    have hsz := hK.size
    clear hE
    by_cases hjl : j < M.length
    · obtain ⟨g, rfl, hg, hc⟩ := own_elem madeV (fun _ => rfl) (own_turned HO hK (fun _ _ h => h)) hjl
      obtain ⟨⟨⟨a', wy', sq', s'⟩, y⟩, hM⟩ : ∃ x, x = M[j] := ⟨_, rfl⟩
      rw [← hM] at hc
      have c0 : wr.cell? ⟨g, j * 5, none⟩ = some (.int .u16 a') := hc 0 (by omega)
      have c1 : wr.cell? ⟨g, j * 5 + 1, none⟩ = some (.int .i64 wy') := hc 1 (by omega)
      have c2 : wr.cell? ⟨g, j * 5 + 2, none⟩ = some (.int .i64 sq') := hc 2 (by omega)
      have c3 : wr.cell? ⟨g, j * 5 + 3, none⟩ = some (.string s') := hc 3 (by omega)
      have c4 : wr.cell? ⟨g, j * 5 + 4, none⟩ = some (.int .i64 y) := hc 4 (by omega)
      have x0 : wr.cell? ⟨w.heap.size, 0, none⟩ = some (.int .u16 a) := hX.cell 0
      have x1 : wr.cell? ⟨w.heap.size, 1, none⟩ = some (.int .i64 wy) := hX.cell 1
      have x2 : wr.cell? ⟨w.heap.size, 2, none⟩ = some (.int .i64 sq) := hX.cell 2
      have x3 : wr.cell? ⟨w.heap.size, 3, none⟩ = some (.string s) := hX.cell 3
      have hxl := hX.lt
      have hj0 : (0 : Int) ≤ (j : Int) := by omega
      have i1 : (j : Int) < (M.length : Int) := by omega
      clear hc
      have HM := Lib.hid hM
      clear hM
      have hwl : (wroteOf (M.take j) (a, wy, sq, s)).length ≤ j := Nat.le_trans (wrote_le _ _) (List.length_take_le _ _)
      by_cases hkj : (a', wy', sq', s') = (a, wy, sq, s)
      · have HE := Lib.hid (wrote_yes (m := (a, wy, sq, s)) hjl (by rw [← HM.out]; exact hkj))
        have heq := fun W => eq_mac a wy sq s a' wy' sq' s' W
        rw [decide_eq_true hkj] at heq
        clear hkj
        go_wp2_with fail
        go_quiet (fail)
        have hown' := own_turned hown ((Turned.refl (fun _ => False) wr).drewN nq) (fun _ _ h => h)
        have hX' := hX.drewN nq
        have hK' := hK.drewN nq
        have hsz' : w.heap.size ≤ (wr.drewN nq).heap.size := hsz
        go_wp2_with (at_builtin; refine wpList_append_lies _ (by rfl) _ _ _ (by rfl) w.heap.size 3 i0 _ 1 8 Try.underlying48 hi0 hz0 hz1 hz2 rfl (by omega) u5 _ _ (by rfl) (own_turned hown (((Turned.refl (fun _ => False) wr).alloc _).drewN nq) (fun _ _ h => h)) ⟨wr.heap.size, 0, none⟩ 1 1 [.int .i64 y] (by rfl) (by rfl) (World.news_of_block (cs := #[.int .i64 y]) (t := 3) (fr := (0, 0)) (heap_alloc_new wr _)) (by simp [Value.oneCell']) (by omega) (by unfold maxLen; omega) (by omega) (by simp; omega) (wr.heap.size + 1) (by simp) ?_; intro gg cap w3 O3 hg3 hat hlt3)
        go_roundg (gk - 1)
        case measure => omega
        case rel =>
          refine ⟨j + 1, by omega, by go_num, ?_, ?_, ?_⟩
          · rw [HE.out, ← HM.out]; simpa using O3
          · exact ((hX.alloc _).drewN nq).grown hg3 (Ne.symm (own_blk_ne hown hX (by decide)))
          · exact (((hK.alloc _).drewN nq).grown hg3 (fun k h hk => absurd (own_base hown h) (by omega)))
      · have HE := Lib.hid (wrote_no (m := (a, wy, sq, s)) hjl (by rw [← HM.out]; exact hkj))
        have heq := fun W => eq_mac a wy sq s a' wy' sq' s' W
        rw [decide_eq_false hkj] at heq
        clear hkj
        go_wp2_with fail
        go_quiet (fail)
        go_wp2_with fail
        go_roundg (gk - 1)
        case measure => omega
        case rel => exact ⟨j + 1, by omega, by go_num, by rw [HE.out]; exact own_turned hown ((Turned.refl (fun _ => False) wr).drewN nq) (fun _ _ h => h), hX.drewN nq, hK.drewN nq⟩
    · have hjj : j = M.length := by omega
      subst hjj
      go_wp2_with fail
      go_ret
      exact ⟨_, rfl, by simpa using hown, hK⟩
end Go.Proofs.Ytkldepflfomegaa
