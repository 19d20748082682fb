/- The contract of ledger's Wrote. -/
import Derived.Test.YtkldepflfomegaaLoops
namespace Go.Proofs.Ytkldepflfomegaa
open Go.RowKit
open Go.Maps (Keyed)

def wroteOf (M : List Made) (m : Mac) : List Int := (M.filter (fun x => decide (x.1 = m))).map (·.2)
theorem wrote_yes {M : List Made} {m : Mac} {j : Nat} (hj : j < M.length) (h : M[j].1 = m) : wroteOf (M.take (j + 1)) m = wroteOf (M.take j) m ++ [M[j].2] := by
  unfold wroteOf
  rw [List.take_succ_eq_append_getElem hj, List.filter_append, List.map_append]
  congr 1
  simp [h]
theorem wrote_no {M : List Made} {m : Mac} {j : Nat} (hj : j < M.length) (h : M[j].1 ≠ m) : wroteOf (M.take (j + 1)) m = wroteOf (M.take j) m := by
  unfold wroteOf
  rw [List.take_succ_eq_append_getElem hj, List.filter_append, List.map_append]
  simp [h]
theorem wrote_le (M : List Made) (m : Mac) : (wroteOf M m).length ≤ M.length := by
  simp only [wroteOf, List.length_map]
  exact List.length_filter_le _ _
theorem bytes_inj {a b : ByteArray} : a.toList = b.toList ↔ a = b := by
  rw [ByteArray.toList_eq, ByteArray.toList_eq]
  exact ⟨fun h => ByteArray.ext (Array.toList_inj.mp h), fun h => by rw [h]⟩
theorem bytes_beq {a b : ByteArray} : (a.toList == b.toList) = decide (a = b) := by
  rw [Bool.eq_iff_iff]
  simp [bytes_inj]

/-- Two macs, held against each other. -/
theorem eq_mac (a wy sq : Int) (s : ByteArray) (a' wy' sq' : Int) (s' : ByteArray) (W : World) :
    (Op.equalIn 10000 36 (.agg #[.int .u16 a', .int .i64 wy', .int .i64 sq', .string s']) (.agg #[.int .u16 a, .int .i64 wy, .int .i64 sq, .string s])).run Try.prog W = .ok (decide ((a', wy', sq', s') = (a, wy, sq, s))) W := by
  go_simp
  by_cases h1 : a' = a <;> by_cases h2 : wy' = wy <;> by_cases h3 : sq' = sq <;> by_cases h4 : s' = s <;> simp [h1, h2, h3, h4, bytes_inj]
theorem info_int : (Try.prog.info? 3).map (fun i => (i.zero, i.size, i.bytes)) = some (some (.int .i64 0), 1, 8) := by kernel_rfl

set_option maxRecDepth 100000 in
set_option maxHeartbeats 1000000 in
theorem wrote_any (F : Nat → Prop) (p : Nat) (S : List Sig) (M : List Made) (T : List Int) (a wy sq : Int) (s : ByteArray) (w : World) (hl : M.length ≤ 2000) (h : BookAt w F p S M T) :
    Calls Try.prog 23 #[.pointer (some ⟨p, 0, none⟩), .agg #[.int .u16 a, .int .i64 wy, .int .i64 sq, .string s]] w fun e w' => ∃ v, e = .returned v ∧ w'.ownsRow w.heap.size 3 1 v (wroteOf M (a, wy, sq, s)).length ((wroteOf M (a, wy, sq, s)).map (.int .i64)) ∧ Kept w w' := by
  obtain ⟨i0, hi0, hz0, hz1, hz2⟩ := info_parts info_int
  obtain ⟨s1, m1, s2, m2, s3, m3, hB, hf⟩ := h
  obtain ⟨A, c, rfl⟩ := own_slice hB.r2.own
  have HO := hB.r2.own
  simp only [List.length_map] at HO ⊢
  have q0 := hB.blk.cell 2
  simp at q0
  have hlt := hB.blk.lt
  clear hB hf
  go_enter Try.func23, Try.ntmps23
  go_wp2_with fail
  go_loopg [5, 14] M.length (fun gk v i wr => ∃ j : Nat, j + gk = M.length ∧ i = .int .i64 j ∧ wr.ownsRow w.heap.size 3 1 v (wroteOf (M.take j) (a, wy, sq, s)).length ((wroteOf (M.take j) (a, wy, sq, s)).map (.int .i64)) ∧ Blk wr w.heap.size 36 #[.int .u16 a, .int .i64 wy, .int .i64 sq, .string s] ∧ Kept w wr)
  case atStart => exact ⟨0, Nat.zero_add _, rfl, ⟨rfl, .inl ⟨rfl, rfl⟩⟩, Blk.new w _ _, (Turned.refl _ _).alloc _⟩
  case round =>
    obtain ⟨j, hj, rfl, hown, hX, hK⟩ := hrel
    by_cases hjl : j < M.length
    · obtain ⟨g, rfl, hg, hc⟩ := own_elem madeV (fun _ => rfl) (own_turned HO hK (fun _ _ h => h)) hjl
      obtain ⟨⟨⟨a', wy', sq', s'⟩, y⟩, hM⟩ : ∃ x, x = M[j] := ⟨_, rfl⟩
      rw [← hM] at hc
      have c0 : wr.cell? ⟨g, j * 5, none⟩ = some (.int .u16 a') := hc 0 (by omega)
      have c1 : wr.cell? ⟨g, j * 5 + 1, none⟩ = some (.int .i64 wy') := hc 1 (by omega)
      have c2 : wr.cell? ⟨g, j * 5 + 2, none⟩ = some (.int .i64 sq') := hc 2 (by omega)
      have c3 : wr.cell? ⟨g, j * 5 + 3, none⟩ = some (.string s') := hc 3 (by omega)
      have c4 : wr.cell? ⟨g, j * 5 + 4, none⟩ = some (.int .i64 y) := hc 4 (by omega)
      have x0 : wr.cell? ⟨w.heap.size, 0, none⟩ = some (.int .u16 a) := hX.cell 0
      have x1 : wr.cell? ⟨w.heap.size, 1, none⟩ = some (.int .i64 wy) := hX.cell 1
      have x2 : wr.cell? ⟨w.heap.size, 2, none⟩ = some (.int .i64 sq) := hX.cell 2
      have x3 : wr.cell? ⟨w.heap.size, 3, none⟩ = some (.string s) := hX.cell 3
      have hxl := hX.lt
      clear hc
      have HM := Lib.hid hM
      clear hM
      have hwl : (wroteOf (M.take j) (a, wy, sq, s)).length ≤ j := Nat.le_trans (wrote_le _ _) (List.length_take_le _ _)
      have hsz := hK.size
      by_cases hkj : (a', wy', sq', s') = (a, wy, sq, s)
      · have HE := Lib.hid (wrote_yes (m := (a, wy, sq, s)) hjl (by rw [← HM.out]; exact hkj))
        have heq := fun W => eq_mac a wy sq s a' wy' sq' s' W
        rw [decide_eq_true hkj] at heq
        clear hkj
        go_wp2_with (at_builtin; refine wpList_append_lies _ (by rfl) _ _ _ (by rfl) w.heap.size 3 i0 _ 1 8 Try.underlying48 hi0 hz0 hz1 hz2 rfl (by omega) u5 _ _ (by rfl) ((hown.alloc _).alloc _) ⟨wr.heap.size + 1, 0, none⟩ 1 1 [.int .i64 y] (by rfl) (by rfl) (World.news_of_block (cs := #[.int .i64 y]) (t := 3) (fr := (0, 0)) (by simpa using heap_alloc_new (wr.alloc _) _)) (by simp [Value.oneCell']) (by omega) (by unfold maxLen; omega) (by omega) (by simp; omega) (wr.heap.size + 2) (by simp) ?_; intro gg cap w3 O3 hg3 hat hlt3)
        go_roundg (gk - 1)
        case measure => omega
        case rel =>
          refine ⟨j + 1, by omega, by go_num, ?_, ?_, ?_⟩
          · rw [HE.out, ← HM.out]; simpa using O3
          · exact ((hX.alloc _).alloc _).grown hg3 (Ne.symm (own_blk_ne hown hX (by decide)))
          · exact (((hK.alloc _).alloc _).grown hg3 (fun k h hk => absurd (own_base hown h) (by omega)))
      · have HE := Lib.hid (wrote_no (m := (a, wy, sq, s)) hjl (by rw [← HM.out]; exact hkj))
        have heq := fun W => eq_mac a wy sq s a' wy' sq' s' W
        rw [decide_eq_false hkj] at heq
        clear hkj
        go_wp2_with fail
        go_roundg (gk - 1)
        case measure => omega
        case rel => exact ⟨j + 1, by omega, by go_num, by rw [HE.out]; exact hown.alloc _, hX.alloc _, hK.alloc _⟩
    · have hjj : j = M.length := by omega
      subst hjj
      go_wp2_with fail
      go_ret
      exact ⟨_, rfl, by simpa using hown, hK⟩
end Go.Proofs.Ytkldepflfomegaa
