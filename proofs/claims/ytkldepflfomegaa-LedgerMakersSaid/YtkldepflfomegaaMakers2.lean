/- The law LedgerMakers: the walk, where the mac may be written. -/
import Derived.Test.YtkldepflfomegaaMakers
namespace Go.Proofs.Ytkldepflfomegaa
open Go.RowKit
open Go.Maps (Keyed)

set_option maxRecDepth 100000 in
set_option maxHeartbeats 4000000 in
theorem makers_good (A : Option Addr) (c : Nat) (l : List Int) (a wy sq : Int) (s : ByteArray) (w : World) (hl : l.length ≤ 9223372036854775807) (hr : ReadsT byteV w w.heap.size 1 A l) (hok : ∀ x ∈ l, 0 ≤ x ∧ x ≤ 255)
    (hm : macOk (a, wy, sq, s)) (hs : s.size ≤ 200) (hwr : writeOk a wy sq 0) :
    Calls Try.prog 6 #[.agg #[.int .u16 a, .int .i64 wy, .int .i64 sq, .string s], .slice A l.length c] w fun e w' => e = .returned (.bool true) ∧ Kept w w' := by
  have hgs : decide (200 < (s.size : Int)) = false := by simp; omega
  obtain ⟨i0, hi0, hz0, hz1, hz2⟩ := info_parts info_int
  go_enter Try.func6, Try.ntmps6
  go_wp2_with fail
  refine (awake_any _).mono ?_
  rintro e w1 ⟨rfl, hK1⟩
  have hX1 : Blk w1 w.heap.size 36 #[.int .u16 a, .int .i64 wy, .int .i64 sq, .string s] := (Blk.new w _ _).turned hK1 (fun h => h)
  have x3 : w1.cell? ⟨w.heap.size, 3, none⟩ = some (.string s) := hX1.cell 3
  replace hK1 : Kept w w1 := ((Turned.refl _ w).alloc _).then_ hK1 (fun _ _ h => h)
  go_wp2_with fail
  refine (new_any _).mono ?_
  rintro e w2 ⟨rfl, hB0, hK2, hs2⟩
  have hX2 := hX1.turned hK2 (fun h => h)
  have hT2 : Turned (From w.heap.size) w w2 := (hK1.then_ hK2 (fun _ _ h => h)).mono (fun _ _ h => h.elim)
  have hxlt := hX1.lt
  have hs1 := hK1.size
  have hM0 : MakersAt w (w2.alloc (.cells #[] 3)) w.heap.size w1.heap.size (a, wy, sq, s) [] (.slice (some ⟨w2.heap.size, 0, none⟩) 0 0) := by
    refine ⟨fun k => k = w1.heap.size, hB0.kept ((Turned.refl _ w2).alloc _), ⟨rfl, .inr ⟨w2.heap.size, 0, #[], rfl, by omega, heap_alloc_new w2 _, Nat.le_refl _, by simp [maxLen], rfl, rfl⟩⟩, hX2.alloc _, ?_, hT2.alloc _, Nat.le_refl _⟩
    rintro k rfl
    exact ⟨hs1, by simp; omega, by omega, by simp [Value.ownBlock]; omega⟩
  have Hs2 := Lib.hid hs2
  clear hs2 hB0 hK2 hX1 hX2 x3 hT2
  go_wp2_with fail
  go_loopg [6, 7] l.length (fun gk v i wr => ∃ (j : Nat) (ks : List Int), j + gk = l.length ∧ j ≤ 100 ∧ i = .int .i64 j ∧ ks.length ≤ j ∧ MakersAt w wr w.heap.size w1.heap.size (a, wy, sq, s) ks v)
  case atStart => exact ⟨0, [], Nat.zero_add _, by omega, rfl, by simp, hM0⟩
  case round =>
    obtain ⟨j, ks, hj, hj2, rfl, hkl, hM⟩ := hrel
    clear hM0
    by_cases hjl : j < l.length ∧ j < 100
    · obtain ⟨hjl, hj3⟩ := hjl
      have hM' := hM
      obtain ⟨F, q1, q2, q3, q4, q5, q6⟩ := hM'
      have hsz := q5.size
      obtain ⟨A6, c6, hv6⟩ := own_slice q2
      subst hv6
      obtain ⟨b, o, rfl, hb, hc⟩ := (hr.below (w' := wr) (fun k hk => q5.block k hk (fun h => absurd h (by unfold From; omega)))) j hjl
      obtain ⟨x, hx⟩ : ∃ x, x = l[j] := ⟨_, rfl⟩
      have hx0 : 0 ≤ x ∧ x ≤ 255 := by rw [hx]; exact hok _ (List.getElem_mem hjl)
      rw [← hx] at hc
      have c0 : wr.cell? ⟨b, o + j, none⟩ = some (.int .u8 x) := by simpa [byteV, Value.cells] using hc 0 (by omega)
      have x0 : wr.cell? ⟨w.heap.size, 0, none⟩ = some (.int .u16 a) := q3.cell 0
      have x1 : wr.cell? ⟨w.heap.size, 1, none⟩ = some (.int .i64 wy) := q3.cell 1
      have x2 : wr.cell? ⟨w.heap.size, 2, none⟩ = some (.int .i64 sq) := q3.cell 2
      have x3 : wr.cell? ⟨w.heap.size, 3, none⟩ = some (.string s) := q3.cell 3
      obtain ⟨hx1, hx2⟩ := hx0
      have hi3 : (j : Int) < 100 := by omega
      obtain ⟨kk, hkk⟩ : ∃ kk, kk = x % 9 := ⟨_, rfl⟩
      have hk0 : 0 ≤ kk := by omega
      have hk8 : kk ≤ 8 := by omega
      have C := Lib.hid (makers_write (k := kk) hM hm ⟨by omega, by omega⟩ ⟨hwr.1, hwr.2.1, hwr.2.2.1, by omega⟩ (by omega))
      clear hc hx hr hok q1 q2 q3 q4 q5 q6 hM
      go_wp2_with fail
      rw [← hkk]
      refine C.out.mono ?_
      rintro e w3 ⟨rfl, F3, r1, r2, r3, r4, r5, r6⟩
      clear C hkk c0 x0 x1 x2 x3 hx1 hx2
      go_wp2_with fail
      have hrd := reads_ints r2
      obtain ⟨g1, rfl⟩ : ∃ g1 : Nat, g1 = gk := ⟨_, rfl⟩
      obtain ⟨wo, rfl⟩ : ∃ wo : World, wo = wr := ⟨_, rfl⟩
      go_loopg [10, 65] ks.length (fun g2 kn i2 wr2 => ∃ i : Nat, i + g2 = ks.length ∧ i2 = .int .i64 i ∧ kn = .bool (hasB kk (ks.take i)) ∧ w3 = wr2)
      case atStart => exact ⟨0, Nat.zero_add _, rfl, rfl, rfl⟩
      case round =>
        obtain ⟨i, hi, rfl, rfl, rfl⟩ := hrel
        by_cases hil : i < ks.length
        · obtain ⟨b2, o2, rfl, hb2, hc2⟩ := hrd i hil
          obtain ⟨y, hy⟩ : ∃ y, y = ks[i] := ⟨_, rfl⟩
          have HS := Lib.hid (hasB_take_succ (k := kk) hil)
          rw [← hy] at hc2 HS
          have d0 : w3.cell? ⟨b2, o2 + i, none⟩ = some (.int .i64 y) := by simpa [Value.cells] using hc2 0 (by omega)
          clear hc2 hy hrd r1 r2 r3 r4 r5 r6
          generalize hh : hasB kk (ks.take i) = kn
          rw [hh] at HS
          clear hh
          cases kn
          all_goals
            go_wp2_with fail
            go_roundg (gk - 1)
            case measure => omega
            case rel => exact ⟨i + 1, by omega, by go_num, by rw [HS.out]; rfl, rfl⟩
        · have hii : i = ks.length := by omega
          subst hii
          rw [List.take_length]
          clear hrd
          have hend : ∃ b, hasB kk ks = b := ⟨_, rfl⟩
          obtain ⟨bk, hbk⟩ := hend
          rw [hbk]
          have HN : Hid (newK ks kk = if bk then ks else ks ++ [kk]) := by
            show newK ks kk = _
            unfold newK
            rw [hbk]
          clear hbk
          have hkl2 := newK_len ks kk
          have hne := newK_ne ks kk
          cases bk
          · rw [HN.out] at r1
            have e5 : ks.length + 1 = (ks ++ [kk]).length := by simp
            have hne5 : ks ++ [kk] ≠ [] := by simp
            generalize hK5 : ks ++ [kk] = K5 at r1 e5 hne5
            have H5 := Lib.hid hK5
            have E5 := Lib.hid e5
            have hl5 : K5.length ≤ j + 1 := by omega
            clear hK5 e5 HN hne hkl2
            go_wp2_with (at_builtin; refine wpList_append_lies _ (by rfl) _ _ _ (by rfl) w.heap.size 3 i0 _ 1 8 Try.underlying48 hi0 hz0 hz1 hz2 rfl (by omega) (.slice A6 ks.length c6) _ _ (by rfl) (r2.alloc _) ⟨w3.heap.size, 0, none⟩ 1 1 [.int .i64 kk] (by rfl) (by rfl) (World.news_of_block (cs := #[.int .i64 kk]) (t := 3) (fr := (0, 0)) (heap_alloc_new w3 _)) (by simp [Value.oneCell']) (by omega) (by unfold maxLen; omega) (by omega) (by have := r5.size; simp; omega) (w3.heap.size + 1) (by simp) ?_; intro gg c5 w5 O3 hg3 hat hlt3; have hM5 := makers_append (by rw [H5.out]; exact r1) r2 r3 r4 r5 r6 hg3 O3 hat; rw [H5.out, E5.out] at hM5; rw [E5.out]; obtain ⟨A5, hA5⟩ : ∃ A5, A5 = some (⟨gg, 0, none⟩ : Addr) := ⟨_, rfl⟩; rw [← hA5] at hM5 ⊢; clear hA5 O3 hg3 hat hlt3; obtain ⟨y0, y1, y2, y3⟩ := hM5.cells; clear r1 r2 r3 r4 r5 r6)
            refine (makers_wrote hM5 (by omega)).mono ?_
            rintro e w6 ⟨A7, c7, rfl, hown7, hK6⟩
            have hM6 := hM5.kept hK6
            clear hM5 hK6 y0 y1 y2 y3
            obtain ⟨y0, y1, y2, y3⟩ := hM6.cells
            have hrdg := reads_ints hown7
            have hrdw : ReadsT (.int .i64) w6 w6.heap.size 1 A5 K5 := by
              obtain ⟨F6, b1, b2, b3, b4, b5, b6⟩ := hM6
              exact reads_ints b2
            clear hown7
            go_wp2_with fail
            go_loopg [92] K5.length (fun g2 i2 wr2 => ∃ i n : Nat, i + g2 = K5.length ∧ i2 = .int .i64 i ∧ w6.drewN n = wr2)
            case atStart => exact ⟨0, 0, Nat.zero_add _, rfl, rfl⟩
            case round =>
              obtain ⟨i, n, hi, rfl, rfl⟩ := hrel
              by_cases hil : i < K5.length
              · obtain ⟨b2, o2, rfl, hb2, hc2⟩ := hrdg i hil
                obtain ⟨b3, o3, rfl, hb3, hc3⟩ := hrdw i hil
                obtain ⟨y, hy⟩ : ∃ y, y = K5[i] := ⟨_, rfl⟩
                rw [← hy] at hc2 hc3
                have d0 : w6.cell? ⟨b2, o2 + i, none⟩ = some (.int .i64 y) := by simpa [Value.cells] using hc2 0 (by omega)
                have d1 : w6.cell? ⟨b3, o3 + i, none⟩ = some (.int .i64 y) := by simpa [Value.cells] using hc3 0 (by omega)
                have i1 : (i : Int) < (K5.length : Int) := by omega
                have i2 : (0 : Int) ≤ (i : Int) := by omega
                clear hc2 hc3 hy hrdg hrdw hM6
                go_wp2_with fail
                go_quiet (fail)
                go_wp2_with fail
                go_roundg (gk - 1)
                case measure => omega
                case rel => exact ⟨i + 1, n + nq, by omega, by go_num, rfl⟩
              · clear hrdg hrdw
                have hM7 := hM6.kept ((Turned.refl _ w6).drewN n)
                have C := Lib.hid (makers_macs hM7 (by omega) hne5 hm)
                go_wp2_with fail
                refine C.out.mono ?_
                rintro e w8 ⟨g8, c8, rfl, hg8, ⟨z0, z1, z2, z3⟩, hK8⟩
                have hM8 := hM7.kept hK8
                clear C hM7 hM6 y0 y1 y2 y3 hK8
                obtain ⟨y0, y1, y2, y3⟩ := hM8.cells
                have heq := fun W => eq_mac a wy sq s a wy sq s W
                rw [decide_eq_true rfl] at heq
                go_wp2_with fail
                go_quiet (fail)
                go_wp2_with fail
                go_roundg (g1 - 1)
                case measure => omega
                case rel => exact ⟨j + 1, K5, by omega, by omega, by go_num, by omega, hM8.kept ((Turned.refl _ w8).drewN _)⟩
          · rw [HN.out] at r1
            have hM5 : MakersAt w w3 w.heap.size w1.heap.size (a, wy, sq, s) ks (.slice A6 ks.length c6) := ⟨F3, r1, r2, r3, r4, r5, r6⟩
            have hne5 : ks ≠ [] := by rw [HN.out] at hne; exact hne
            have hl5 : ks.length ≤ j + 1 := by omega
            obtain ⟨K5, hK5⟩ : ∃ K5, K5 = ks := ⟨_, rfl⟩
            obtain ⟨w5, hw5⟩ : ∃ w5, w5 = w3 := ⟨_, rfl⟩
            obtain ⟨A5, hA5⟩ : ∃ A5, A5 = A6 := ⟨_, rfl⟩
            obtain ⟨c5, hc5⟩ : ∃ c5, c5 = c6 := ⟨_, rfl⟩
            subst hK5 hw5 hA5 hc5
            obtain ⟨y0, y1, y2, y3⟩ := hM5.cells
            clear r1 r2 r3 r4 r5 r6 HN hne hkl2
            go_wp2_with fail
            refine (makers_wrote hM5 (by omega)).mono ?_
            rintro e w6 ⟨A7, c7, rfl, hown7, hK6⟩
            have hM6 := hM5.kept hK6
            clear hM5 hK6 y0 y1 y2 y3
            obtain ⟨y0, y1, y2, y3⟩ := hM6.cells
            have hrdg := reads_ints hown7
            have hrdw : ReadsT (.int .i64) w6 w6.heap.size 1 A5 K5 := by
              obtain ⟨F6, b1, b2, b3, b4, b5, b6⟩ := hM6
              exact reads_ints b2
            clear hown7
            go_wp2_with fail
            go_loopg [92] K5.length (fun g2 i2 wr2 => ∃ i n : Nat, i + g2 = K5.length ∧ i2 = .int .i64 i ∧ w6.drewN n = wr2)
            case atStart => exact ⟨0, 0, Nat.zero_add _, rfl, rfl⟩
            case round =>
              obtain ⟨i, n, hi, rfl, rfl⟩ := hrel
              by_cases hil : i < K5.length
              · obtain ⟨b2, o2, rfl, hb2, hc2⟩ := hrdg i hil
                obtain ⟨b3, o3, rfl, hb3, hc3⟩ := hrdw i hil
                obtain ⟨y, hy⟩ : ∃ y, y = K5[i] := ⟨_, rfl⟩
                rw [← hy] at hc2 hc3
                have d0 : w6.cell? ⟨b2, o2 + i, none⟩ = some (.int .i64 y) := by simpa [Value.cells] using hc2 0 (by omega)
                have d1 : w6.cell? ⟨b3, o3 + i, none⟩ = some (.int .i64 y) := by simpa [Value.cells] using hc3 0 (by omega)
                have i1 : (i : Int) < (K5.length : Int) := by omega
                have i2 : (0 : Int) ≤ (i : Int) := by omega
                clear hc2 hc3 hy hrdg hrdw hM6
                go_wp2_with fail
                go_quiet (fail)
                go_wp2_with fail
                go_roundg (gk - 1)
                case measure => omega
                case rel => exact ⟨i + 1, n + nq, by omega, by go_num, rfl⟩
              · clear hrdg hrdw
                have hM7 := hM6.kept ((Turned.refl _ w6).drewN n)
                have C := Lib.hid (makers_macs hM7 (by omega) hne5 hm)
                go_wp2_with fail
                refine C.out.mono ?_
                rintro e w8 ⟨g8, c8, rfl, hg8, ⟨z0, z1, z2, z3⟩, hK8⟩
                have hM8 := hM7.kept hK8
                clear C hM7 hM6 y0 y1 y2 y3 hK8
                obtain ⟨y0, y1, y2, y3⟩ := hM8.cells
                have heq := fun W => eq_mac a wy sq s a wy sq s W
                rw [decide_eq_true rfl] at heq
                go_wp2_with fail
                go_quiet (fail)
                go_wp2_with fail
                go_roundg (g1 - 1)
                case measure => omega
                case rel => exact ⟨j + 1, K5, by omega, by omega, by go_num, by omega, hM8.kept ((Turned.refl _ w8).drewN _)⟩
    · have hend : l.length ≤ j ∨ (j < l.length ∧ decide ((j : Int) < 100) = false) := by
        by_cases h : j < l.length
        · exact .inr ⟨h, by simp; omega⟩
        · exact .inl (by omega)
      obtain ⟨F, q1, q2, q3, q4, q5, q6⟩ := hM
      clear hjl hr hok q1 q2 q3 q4
      rcases hend with hend | ⟨hend, hend2⟩
      all_goals
        go_wp2_with fail
        go_ret
        exact ⟨rfl, q5.mono (fun k hk h => by unfold From at h; omega)⟩
end Go.Proofs.Ytkldepflfomegaa
