/- The law LedgerMakers: the walk, where the mac may not be written, or its body is long; and the law. -/
import Derived.Test.YtkldepflfomegaaMakers2
namespace Go.Proofs.Ytkldepflfomegaa
open Go.RowKit
open Go.Maps (Keyed)

set_option maxRecDepth 100000 in
set_option maxHeartbeats 4000000 in
theorem makers_long (A : Option Addr) (c n : Nat) (a wy sq : Int) (s : ByteArray) (w : World) (hs : 200 < s.size) :
    Calls Try.prog 6 #[.agg #[.int .u16 a, .int .i64 wy, .int .i64 sq, .string s], .slice A n c] w fun e w' => e = .returned (.bool true) ∧ Kept w w' := by
  have hgs : decide (200 < (s.size : Int)) = true := by simp; omega
  go_enter Try.func6, Try.ntmps6
  go_wp2_with fail
  refine (awake_any _).mono ?_
  rintro e w1 ⟨rfl, hK1⟩
  have hX1 : Blk w1 w.heap.size 36 #[.int .u16 a, .int .i64 wy, .int .i64 sq, .string s] := (Blk.new w _ _).turned hK1 (fun h => h)
  have x3 : w1.cell? ⟨w.heap.size, 3, none⟩ = some (.string s) := hX1.cell 3
  replace hK1 : Kept w w1 := ((Turned.refl _ w).alloc _).then_ hK1 (fun _ _ h => h)
  go_wp2_with fail
  go_ret
  exact ⟨rfl, hK1⟩

set_option maxRecDepth 100000 in
set_option maxHeartbeats 4000000 in
theorem makers_bad (A : Option Addr) (c : Nat) (l : List Int) (a wy sq : Int) (s : ByteArray) (w : World) (_hl : l.length ≤ 9223372036854775807) (hr : ReadsT byteV w w.heap.size 1 A l) (hok : ∀ x ∈ l, 0 ≤ x ∧ x ≤ 255)
    (hm : macOk (a, wy, sq, s)) (hs : s.size ≤ 200) (hwr : ¬ writeOk a wy sq 0) :
    Calls Try.prog 6 #[.agg #[.int .u16 a, .int .i64 wy, .int .i64 sq, .string s], .slice A l.length c] w fun e w' => e = .returned (.bool true) ∧ Kept w w' := by
  have hgs : decide (200 < (s.size : Int)) = false := by simp; omega
  go_enter Try.func6, Try.ntmps6
  go_wp2_with fail
  refine (awake_any _).mono ?_
  rintro e w1 ⟨rfl, hK1⟩
  have hX1 : Blk w1 w.heap.size 36 #[.int .u16 a, .int .i64 wy, .int .i64 sq, .string s] := (Blk.new w _ _).turned hK1 (fun h => h)
  have x3 : w1.cell? ⟨w.heap.size, 3, none⟩ = some (.string s) := hX1.cell 3
  replace hK1 : Kept w w1 := ((Turned.refl _ w).alloc _).then_ hK1 (fun _ _ h => h)
  go_wp2_with fail
  refine (new_any _).mono ?_
  rintro e w2 ⟨rfl, hB0, hK2, hs2⟩
  have hX2 := (hX1.turned hK2 (fun h => h)).alloc (.cells #[] 3)
  have hK3 : Kept w (w2.alloc (.cells #[] 3)) := (hK1.then_ hK2 (fun _ _ h => h)).alloc _
  have hB2 := hB0.kept ((Turned.refl _ w2).alloc (.cells #[] 3))
  generalize hW : w2.alloc (.cells #[] 3) = w3 at hX2 hK3 hB2
  have HW := Lib.hid hW
  clear hW
  have Hs2 := Lib.hid hs2
  clear hs2 hB0 hK2 hX1 x3
  go_wp2_with fail
  rw [HW.out]
  go_loopg [6, 7] l.length (fun gk v i wr => gk = l.length ∧ i = .int .i64 0 ∧ w3 = wr)
  case atStart => exact ⟨rfl, rfl, rfl⟩
  case round =>
    obtain ⟨rfl, rfl, rfl⟩ := hrel
    by_cases hjl : 0 < l.length
    · obtain ⟨b, o, rfl, hb, hc⟩ := (hr.below (w' := w3) (fun k hk => hK3.block k hk (fun h => h))) 0 hjl
      obtain ⟨x, hx⟩ : ∃ x, x = l[0] := ⟨_, rfl⟩
      have hx0 : 0 ≤ x ∧ x ≤ 255 := by rw [hx]; exact hok _ (List.getElem_mem hjl)
      rw [← hx] at hc
      have c0 : w3.cell? ⟨b, o, none⟩ = some (.int .u8 x) := by simpa [byteV, Value.cells] using hc 0 (by omega)
      have x0 : w3.cell? ⟨w.heap.size, 0, none⟩ = some (.int .u16 a) := hX2.cell 0
      have x1 : w3.cell? ⟨w.heap.size, 1, none⟩ = some (.int .i64 wy) := hX2.cell 1
      have x2 : w3.cell? ⟨w.heap.size, 2, none⟩ = some (.int .i64 sq) := hX2.cell 2
      have x3 : w3.cell? ⟨w.heap.size, 3, none⟩ = some (.string s) := hX2.cell 3
      obtain ⟨hx1, hx2⟩ := hx0
      obtain ⟨kk, hkk⟩ : ∃ kk, kk = x % 9 := ⟨_, rfl⟩
      have hk0 : 0 ≤ kk := by omega
      have C := Lib.hid (write_no a wy sq s kk w1.heap.size w3 hm.1.1 hm.1.2 (fun h => hwr ⟨h.1, h.2.1, h.2.2.1, by omega⟩))
      clear hc hx hr hok HW
      go_wp2_with fail
      rw [← hkk]
      refine C.out.mono ?_
      rintro e w4 ⟨rfl, hK4⟩
      have hB4 := hB2.kept hK4
      have hX4 := hX2.turned hK4 (fun h => h)
      clear C hkk c0 x0 x1 x2 x3 hx1 hx2
      have x0 : w4.cell? ⟨w.heap.size, 0, none⟩ = some (.int .u16 a) := hX4.cell 0
      have x1 : w4.cell? ⟨w.heap.size, 1, none⟩ = some (.int .i64 wy) := hX4.cell 1
      have x2 : w4.cell? ⟨w.heap.size, 2, none⟩ = some (.int .i64 sq) := hX4.cell 2
      have x3 : w4.cell? ⟨w.heap.size, 3, none⟩ = some (.string s) := hX4.cell 3
      go_wp2_with fail
      refine (wrote_any _ _ _ _ _ a wy sq s _ (by simp) hB4).mono ?_
      rintro e w5 ⟨v, rfl, hown, hK5⟩
      rw [show wroteOf [] (a, wy, sq, s) = [] from rfl] at hown
      obtain ⟨A5, c5, rfl⟩ := own_slice hown
      have hB5 := hB4.kept hK5
      have y0 : w5.cell? ⟨w.heap.size, 0, none⟩ = some (.int .u16 a) := (hX4.turned hK5 (fun h => h)).cell 0
      clear x0 x1 x2 x3 hown
      go_wp2_with fail
      refine (macs_any _ _ _ _ _ a _ (by simp) (by simp) hB5).mono ?_
      rintro e w6 ⟨v, rfl, hown, _, hK6⟩
      rw [show macsOf [] a = [] from rfl] at hown
      obtain ⟨A6, c6, rfl⟩ := own_slice hown
      have hK7 := ((hK3.then_ hK4 (fun _ _ h => h)).then_ hK5 (fun _ _ h => h)).then_ hK6 (fun _ _ h => h)
      clear hown hK4 hK5 hK6 hB4 hB5 hB2
      go_wp2_with fail
      go_ret
      exact ⟨rfl, hK7⟩
    · clear hr HW
      go_wp2_with fail
      go_ret
      exact ⟨rfl, hK3⟩

theorem makers_walk (A : Option Addr) (c : Nat) (l : List Int) (m : Mac) (w : World) (hl : l.length ≤ 9223372036854775807) (hr : ReadsT byteV w w.heap.size 1 A l) (hok : ∀ x ∈ l, 0 ≤ x ∧ x ≤ 255) (hm : macOk m) :
    Calls Try.prog 6 #[macV m, .slice A l.length c] w fun e w' => e = .returned (.bool true) ∧ Kept w w' := by
  obtain ⟨a, wy, sq, s⟩ := m
  by_cases hs : 200 < s.size
  · exact makers_long A c l.length a wy sq s w hs
  · by_cases hwr : writeOk a wy sq 0
    · exact makers_good A c l a wy sq s w hl hr hok hm (by omega) hwr
    · exact makers_bad A c l a wy sq s w hl hr hok hm (by omega) hwr
end Go.Proofs.Ytkldepflfomegaa
