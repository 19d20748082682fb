/- The law LedgerTrue: the walk. -/
import Derived.Test.YtkldepflfomegaaTrue
import Derived.Deep.DeepCutAuto
import Derived.Deep.CutBlock
namespace Go.Proofs.Ytkldepflfomegaa
open Go.RowKit
open Go.Maps (Keyed)

set_option maxRecDepth 100000 in
set_option maxHeartbeats 4000000 in
theorem true_walk (A : Option Addr) (c : Nat) (l : List Act_) (w : World) (hl : l.length ≤ 9223372036854775807) (hr : ReadsT actV w w.heap.size 7 A l) (hok : ∀ x ∈ l, actOk x) :
    Calls Try.prog 4 #[.slice A l.length c] w fun e w' => e = .returned (.bool true) ∧ Kept w w' := by
  have hmm := @run_makeMap Try.prog
  go_enter Try.func4, Try.ntmps4
  go_wp2_with fail
  refine (awake_any _).mono ?_
  rintro e w1 ⟨rfl, hK1⟩
  go_wp2_with fail
  have C := large_any A c w.heap.size l w1 hl (hr.below (fun k hk => hK1.block k hk (fun h => h)))
  obtain ⟨lg, hlg⟩ : ∃ b, b = largeR l := ⟨_, rfl⟩
  rw [← hlg] at C
  refine C.mono ?_
  rintro e w' ⟨rfl, rfl⟩
  clear C hlg
  rcases Bool.eq_false_or_eq_true lg with rfl | rfl
  · go_wp2_with fail
    go_ret
    exact ⟨rfl, hK1⟩
  go_wp2_with fail
  refine (new_any _).mono ?_
  rintro e w2 ⟨rfl, hB0, hK2, hs2⟩
  have hP2 := BookP.new hK1 hB0 hK2 hs2
  have hsz1 := hK1.size
  have hsz2 : w1.heap.size < w2.heap.size := by omega
  clear hB0 hs2 hK2
  have hT0 : TrueAt w (((w2.alloc (.map #[] 0)).alloc (.map #[] 0)).alloc (.map #[] 0)) w1.heap.size w2.heap.size (w2.heap.size + 1) (w2.heap.size + 1 + 1) [] [] [] (PrT w2.heap.size (w2.heap.size + 1) (w2.heap.size + 1 + 1) w2.heap.size) := by
    have n1 := MapAt.new w2 Try.prog 59
    have n2 := MapAt.new (w2.alloc (.map #[] 0)) Try.prog 61
    have n3 := MapAt.new ((w2.alloc (.map #[] 0)).alloc (.map #[] 0)) Try.prog 34
    simp at n2 n3
    refine ⟨hP2.protect ((((Turned.refl _ w2).alloc _).alloc _).alloc _) (by rintro k (h | h | h | h) <;> exact .inr (by omega)), (n1.alloc _).alloc _, n2.alloc _, n3, by simp [okS], by simp [okM], by simp [okT]⟩
  have hD : Three w w2.heap.size (w2.heap.size + 1) (w2.heap.size + 1 + 1) := ⟨by omega, by omega, by omega, by omega, by omega, by omega⟩
  obtain ⟨b1, hb1⟩ : ∃ b, b = w2.heap.size := ⟨_, rfl⟩
  obtain ⟨b2, hb2⟩ : ∃ b, b = w2.heap.size + 1 := ⟨_, rfl⟩
  obtain ⟨b3, hb3⟩ : ∃ b, b = w2.heap.size + 1 + 1 := ⟨_, rfl⟩
  have Hb1 := Lib.hid hb1
  have Hb2 := Lib.hid hb2
  have Hb3 := Lib.hid hb3
  clear hb1 hb2 hb3
  rw [← Hb3.out, ← Hb2.out, ← Hb1.out] at hT0 hD
  clear hP2
  go_wp2_with fail
  rw [← Hb3.out, ← Hb2.out, ← Hb1.out]
  go_loopg [7] l.length (fun gk i wr => ∃ (j : Nat) (S : List Sig) (M : List Made) (T : List Int) (xb : Nat), j + gk = l.length ∧ j ≤ 200 ∧ i = .int .i64 j ∧ S.length ≤ j ∧ M.length ≤ j ∧ T.length ≤ j ∧ TrueAt w wr w1.heap.size b1 b2 b3 S M T (PrT b1 b2 b3 xb))
  case atStart => exact ⟨0, [], [], [], b1, Nat.zero_add _, by omega, rfl, by simp, by simp, by simp, hT0⟩
  case round =>
    obtain ⟨j, S, M, T, xb0, hj, hj2, rfl, hSl, hMl, hTl, hT⟩ := hrel
    clear hT0
    have hsz := hT.book.size
    by_cases hjl : j < l.length ∧ j < 200
    · obtain ⟨hjl, hj3⟩ := hjl
      obtain ⟨b, o, rfl, hb, hc⟩ := (hr.below (w' := wr) (fun k hk => hT.book.since.block k hk (fun h => absurd h (by unfold From; omega)))) j hjl
      obtain ⟨⟨kind, key, ⟨a, wy, sq, s⟩, y⟩, hx⟩ : ∃ x, x = l[j] := ⟨_, rfl⟩
      have hok1 : actOk ⟨kind, key, (a, wy, sq, s), y⟩ := by rw [hx]; exact hok _ (List.getElem_mem hjl)
      rw [← hx] at hc
      obtain ⟨c0, c1, c2, c3, c4, c5, c6⟩ := act_cells hc
      clear hc hx hr hok
      have hi3 : (j : Int) < 200 := by omega
      obtain ⟨_, ok1, ok2, ok3⟩ := hok1
      have hT1 : TrueAt w (wr.alloc (.cells #[.int .i64 kind, .int .u16 key, .int .u16 a, .int .i64 wy, .int .i64 sq, .string s, .int .i64 y] 38)) w1.heap.size b1 b2 b3 S M T (PrT b1 b2 b3 wr.heap.size) := hT.protect ((Turned.refl _ wr).alloc _) (by
        rintro k (h | h | h | h)
        · exact .inl (.inl h)
        · exact .inl (.inr (.inl h))
        · exact .inl (.inr (.inr (.inl h)))
        · exact .inr (by omega))
      have hxl : wr.heap.size < (wr.alloc (.cells #[.int .i64 kind, .int .u16 key, .int .u16 a, .int .i64 wy, .int .i64 sq, .string s, .int .i64 y] 38)).heap.size := by simp
      have hX1 := Blk.new wr 38 #[.int .i64 kind, .int .u16 key, .int .u16 a, .int .i64 wy, .int .i64 sq, .string s, .int .i64 y]
      have nxb : ∀ (i : Nat), i = b1 ∨ i = b2 ∨ i = b3 → wr.heap.size ≠ i := by
        rintro i (h | h | h) e
        · have := hT.m1.lt; omega
        · have := hT.m2.lt; omega
        · have := hT.m3.lt; omega
      have NXB := Lib.hid nxb
      clear nxb hT
      go_upto_block 2 with (fail)
      go_cut [43] (fun _s43 wx => ∃ (S' : List Sig) (M' : List Made) (T' : List Int), S'.length ≤ j + 1 ∧ M'.length ≤ j + 1 ∧ T'.length ≤ j + 1 ∧ TrueAt w wx w1.heap.size b1 b2 b3 S' M' T' (PrT b1 b2 b3 wr.heap.size) ∧ Blk wx wr.heap.size 38 #[.int .i64 kind, .int .u16 key, .int .u16 a, .int .i64 wy, .int .i64 sq, .string s, .int .i64 y])
      case first =>
        by_cases hk0 : kind = 0
        · have d0 : (kind == 0) = true := by simpa using hk0
          clear hk0
          have C := Lib.hid (true_sign hT1 hD hxl ok1 ok2.2.2.2 (by omega))
          have hS5 := signR_len S key s
          go_wp2_with fail
          refine C.out.mono ?_
          rintro e w5 ⟨rfl, hT5, n5, y5⟩
          have hX5 := hX1.turned hT5 (fun h => h.2 (.inr (.inr (.inr rfl))))
          clear C hT1 hX1 hT5
          by_cases hz : (signR S key s).1 = 0
          · have dz : ((signR S key s).1 == 0) = true := by simpa using hz
            obtain ⟨w6, hu, hT6, ht6⟩ := y5 hz
            have hX6 := hX5.turned ht6 (NXB.out b1 (.inl rfl))
            have e1 : w5.cell? ⟨wr.heap.size, 1, none⟩ = some (.int .u16 key) := hX5.cell 1
            have e5 : w5.cell? ⟨wr.heap.size, 5, none⟩ = some (.string s) := hX5.cell 5
            have HZ := Lib.hid hz
            clear hz n5 y5 ht6
            go_wp2_with fail
            go_meet
            exact ⟨_, M, T, by omega, by omega, by omega, hT6, hX6⟩
          · have dz : ((signR S key s).1 == 0) = false := by simpa using hz
            have hT6 := n5 hz
            clear hz n5 y5
            go_wp2_with fail
            go_meet
            exact ⟨_, M, T, by omega, by omega, by omega, hT6, hX5⟩
        · have d0 : (kind == 0) = false := by simpa using hk0
          clear hk0
          by_cases hk1 : kind = 1
          · have d1 : (kind == 1) = true := by simpa using hk1
            clear hk1
            have C := Lib.hid (true_write (m := (a, wy, sq, s)) (y := y) hT1 hD hxl ok2 ok3 (by omega))
            have hM5 := writeR_len M (a, wy, sq, s) y
            go_wp2_with fail
            refine C.out.mono ?_
            rintro e w5 ⟨rfl, hT5, n5, y5⟩
            have hX5 := hX1.turned hT5 (fun h => h.2 (.inr (.inr (.inr rfl))))
            clear C hT1 hX1 hT5
            by_cases hz : (writeR M (a, wy, sq, s) y).1 = 0
            · have dz : ((writeR M (a, wy, sq, s) y).1 == 0) = true := by simpa using hz
              obtain ⟨w6, hu, hT6, ht6⟩ := y5 hz
              have hX6 := hX5.turned ht6 (NXB.out b2 (.inr (.inl rfl)))
              have e2 : w5.cell? ⟨wr.heap.size, 2, none⟩ = some (.int .u16 a) := hX5.cell 2
              have e3 : w5.cell? ⟨wr.heap.size, 3, none⟩ = some (.int .i64 wy) := hX5.cell 3
              have e4 : w5.cell? ⟨wr.heap.size, 4, none⟩ = some (.int .i64 sq) := hX5.cell 4
              have e5 : w5.cell? ⟨wr.heap.size, 5, none⟩ = some (.string s) := hX5.cell 5
              have e6 : w5.cell? ⟨wr.heap.size, 6, none⟩ = some (.int .i64 y) := hX5.cell 6
              have HZ := Lib.hid hz
              clear hz n5 y5 ht6
              simp only [madeV] at hu
              go_wp2_with fail
              go_meet
              exact ⟨S, _, T, by omega, by omega, by omega, hT6, hX6⟩
            · have dz : ((writeR M (a, wy, sq, s) y).1 == 0) = false := by simpa using hz
              have hT6 := n5 hz
              clear hz n5 y5
              go_wp2_with fail
              go_meet
              exact ⟨S, _, T, by omega, by omega, by omega, hT6, hX5⟩
          · have d1 : (kind == 1) = false := by simpa using hk1
            clear hk1
            by_cases hk2 : kind = 2
            · have d2 : (kind == 2) = true := by simpa using hk2
              clear hk2
              have C := Lib.hid (true_steal (a := key) hT1 hD hxl ok1 (by omega))
              have hT5 := stealR_len T key
              go_wp2_with fail
              refine C.out.mono ?_
              rintro e w5 ⟨rfl, hT5, n5, y5⟩
              have hX5 := hX1.turned hT5 (fun h => h.2 (.inr (.inr (.inr rfl))))
              clear C hT1 hX1 hT5
              by_cases hz : (stealR T key).1 = 0
              · have dz : ((stealR T key).1 == 0) = true := by simpa using hz
                obtain ⟨w6, hu, hT6, ht6⟩ := y5 hz
                have hX6 := hX5.turned ht6 (NXB.out b3 (.inr (.inr rfl)))
                have e1 : w5.cell? ⟨wr.heap.size, 1, none⟩ = some (.int .u16 key) := hX5.cell 1
                have HZ := Lib.hid hz
                clear hz n5 y5 ht6
                go_wp2_with fail
                go_meet
                exact ⟨S, M, _, by omega, by omega, by omega, hT6, hX6⟩
              · have dz : ((stealR T key).1 == 0) = false := by simpa using hz
                have hT6 := n5 hz
                clear hz n5 y5
                go_wp2_with fail
                go_meet
                exact ⟨S, M, _, by omega, by omega, by omega, hT6, hX5⟩
            · have d2 : (kind == 2) = false := by simpa using hk2
              clear hk2
              go_wp2_with fail
              go_meet
              exact ⟨S, M, T, by omega, by omega, by omega, hT1, hX1⟩
      case rest =>
        obtain ⟨S5, M5, T5, hS5, hM5, hT5, hA5, hX5⟩ := hcut
        clear hT1 hX1 hSl hMl hTl c0 c1 c2 c3 c4 c5 c6
        have hX5' : ActB wc wr.heap.size kind key a wy sq s y := hX5
        clear hX5
        go_wp2_with fail
        refine (len_p hA5.book).mono ?_
        rintro e w6 ⟨rfl, hK6⟩
        have hA6 := hA5.kept hK6
        have hX6 : ActB w6 wr.heap.size kind key a wy sq s y := Blk.turned hX5' hK6 (fun h => h)
        clear hA5 hX5' hK6
        go_upto_region 26 with (at_len; first | (refine wpList_len_raw _ rfl _ 55 rfl 59 4 Try.underlying55 b1 _ S5.length (by simp) rfl hA6.m1 ?_) | (refine wpList_len_raw _ rfl _ 56 rfl 61 4 Try.underlying56 b2 _ M5.length (by simp) rfl hA6.m2 ?_) | (refine wpList_len_raw _ rfl _ 57 rfl 34 4 Try.underlying57 b3 _ T5.length (by simp) rfl hA6.m3 ?_))
        go_cut [133] (fun s133 wx => s133 = .bool false ∧ TrueAt w wx w1.heap.size b1 b2 b3 S5 M5 T5 (PrT b1 b2 b3 wr.heap.size) ∧ ActB wx wr.heap.size kind key a wy sq s y)
        case first =>
          have hA6d := hA6.kept ((Turned.refl _ w6).drew)
          have hX6d : ActB w6.drew wr.heap.size kind key a wy sq s y := hX6
          have F6 := true_facts hA6d hX6d ok1 ok2.2.2.2
          have C1 := Lib.hid (signed_p hA6d.book ok1 ok2.2.2.2)
          generalize hr1 : hasB (key, s) S5 = r1 at F6 C1
          generalize hr3 : hasB key T5 = r3 at F6
          obtain ⟨f1, f5, f6, f7⟩ := F6
          clear hA6 hX6
          go_region_held3 (fun W => W.cell? ⟨wr.heap.size, 1, none⟩ = some (.int .u16 key) ∧ W.cell? ⟨wr.heap.size, 5, none⟩ = some (.string s) ∧ (Instr.lookup 55 (.map (some b1)) (.agg #[.int .u16 key, .string s]) false).run Try.prog W = .ok (.bool r1) W ∧ (Instr.lookup 57 (.map (some b3)) (.int .u16 key) false).run Try.prog W = .ok (.bool r3) W)
            (first
              | exact ⟨f1, f5, f6, f7⟩
              | exact F7
              | exact F8)
            (first
              | (go_at_call 19; refine C1.out.mono ?_; rintro e w7 ⟨rfl, hK7⟩; have hA7 := hA6d.kept hK7; have hX7 : ActB w7 wr.heap.size kind key a wy sq s y := Blk.turned hX6d hK7 (fun h => h); have F7 := true_facts hA7 hX7 ok1 ok2.2.2.2; rw [hr1, hr3] at F7; have C2 := Lib.hid (stolen_p hA7.book ok1); rw [hr3] at C2)
              | (go_at_call 21; refine C2.out.mono ?_; rintro e w8 ⟨rfl, hK8⟩; have hA8 := hA7.kept hK8; have hX8 : ActB w8 wr.heap.size kind key a wy sq s y := Blk.turned hX7 hK8 (fun h => h); have F8 := true_facts hA8 hX8 ok1 ok2.2.2.2; rw [hr1, hr3] at F8))
          all_goals
            go_wp2_with fail
            go_meet
            exact ⟨rfl, hA8, hX8⟩
        case rest =>
          obtain ⟨rfl, hA7, hX7⟩ := hcut
          clear hA6 hX6
          have e2 : wc.cell? ⟨wr.heap.size, 2, none⟩ = some (.int .u16 a) := Blk.cell hX7 2
          have e3 : wc.cell? ⟨wr.heap.size, 3, none⟩ = some (.int .i64 wy) := Blk.cell hX7 3
          have e4 : wc.cell? ⟨wr.heap.size, 4, none⟩ = some (.int .i64 sq) := Blk.cell hX7 4
          have e5 : wc.cell? ⟨wr.heap.size, 5, none⟩ = some (.string s) := Blk.cell hX7 5
          go_wp2_with fail
          refine (wrote_p hA7.book (by omega)).mono ?_
          rintro e w9 ⟨A9, c9, rfl, hown9, hK9⟩
          have hA9 := hA7.kept hK9
          have hX9 : ActB w9 wr.heap.size kind key a wy sq s y := Blk.turned hX7 hK9 (fun h => h)
          have hrd := reads_ints hown9
          have hwin : ∀ z, z ∈ wroteOf M5 (a, wy, sq, s) → ((a, wy, sq, s), z) ∈ M5 := fun z hz => wrote_mem.1 hz
          have hwl := wrote_le M5 (a, wy, sq, s)
          generalize wroteOf M5 (a, wy, sq, s) = ys at hrd hwin hwl
          have f2 : w9.cell? ⟨wr.heap.size, 2, none⟩ = some (.int .u16 a) := Blk.cell hX9 2
          have f3 : w9.cell? ⟨wr.heap.size, 3, none⟩ = some (.int .i64 wy) := Blk.cell hX9 3
          have f4 : w9.cell? ⟨wr.heap.size, 4, none⟩ = some (.int .i64 sq) := Blk.cell hX9 4
          have f5 : w9.cell? ⟨wr.heap.size, 5, none⟩ = some (.string s) := Blk.cell hX9 5
          clear hA7 hX7 hown9 hK9 e2 e3 e4 e5
          go_wp2_with fail
          obtain ⟨g1, rfl⟩ : ∃ g1 : Nat, g1 = gk := ⟨_, rfl⟩
          obtain ⟨wo, rfl⟩ : ∃ wo : World, wo = wr := ⟨_, rfl⟩
          go_loopg [139] ys.length (fun g2 i2 wr2 => ∃ i : Nat, i + g2 = ys.length ∧ i2 = .int .i64 i ∧ w9 = wr2)
          case atStart => exact ⟨0, Nat.zero_add _, rfl, rfl⟩
          case round =>
            obtain ⟨i, hi, rfl, rfl⟩ := hrel
            by_cases hil : i < ys.length
            · obtain ⟨b2', o2, rfl, hb2, hc2⟩ := hrd i hil
              have hzin := hwin ys[i] (List.getElem_mem hil)
              obtain ⟨z, hz⟩ : ∃ z, z = ys[i] := ⟨_, rfl⟩
              rw [← hz] at hc2 hzin
              have d0 : w9.cell? ⟨b2', o2 + i, none⟩ = some (.int .i64 z) := by simpa [Value.cells] using hc2 0 (by omega)
              have hlk := true_look hA9 hzin
              clear hc2 hz hrd hwin hzin hX9 hA9
              go_wp2_with fail
              go_roundg (gk - 1)
              case measure => omega
              case rel => exact ⟨i + 1, by omega, by go_num, rfl⟩
            · clear hrd hwin f2 f3 f4 f5 hX9
              go_wp2_with fail
              go_roundg (g1 - 1)
              case measure => omega
              case rel => exact ⟨j + 1, S5, M5, T5, wo.heap.size, by omega, by omega, by go_num, by omega, by omega, by omega, hA9⟩
    · have hend : l.length ≤ j ∨ (j < l.length ∧ decide ((j : Int) < 200) = false) := by
        by_cases h : j < l.length
        · exact .inr ⟨h, by simp; omega⟩
        · exact .inl (by omega)
      clear hr hjl hok
      rcases hend with hend | ⟨hend, hend2⟩
      all_goals
        go_wp2_with (at_range; refine wpList_range_raw _ rfl _ 55 rfl 59 4 Try.underlying55 b1 _ rfl hT.m1 ?_; intro w3 hrg3 hK3 hs3)
        go_frame
        have hA3 := hT.renew hK3
        obtain ⟨r, hrr⟩ : ∃ r, r = wr.heap.size := ⟨_, rfl⟩
        have hrw : w.heap.size ≤ r := by omega
        have hrl : r < w3.heap.size := by omega
        rw [← hrr] at hA3 hrg3 ⊢
        clear hs3 hT hK3
        obtain ⟨wo, rfl⟩ : ∃ wo : World, wo = wr := ⟨_, rfl⟩
        have HR := Lib.hid hrr
        clear hrr
        go_loopg [154] S.length (fun g2 _s wr2 => ∃ left, left.length = g2 ∧ RangeAt wr2 Try.prog 59 b1 r ((S.map sigV).map fun x => (x, .bool true)) left ∧ TrueAt w wr2 w1.heap.size b1 b2 b3 S M T (PrT b1 b2 b3 r) ∧ r < wr2.heap.size)
        case atStart => exact ⟨_, by simp, hrg3, hA3, hrl⟩
        case round =>
          obtain ⟨left, hleft, hrg, hA, hrl2⟩ := hrel
          clear hA3 hrg3 hrl
          go_wp2_with (at_next; refine wpList_next_raw _ rfl _ rfl 59 b1 r _ left rfl hrg ?_ ?_)
          · intro hl0
            go_wp2_with (at_range; refine wpList_range_raw _ rfl _ 56 rfl 61 4 Try.underlying56 b2 _ rfl hA.m2 ?_; intro w4 hrg4 hK4 hs4)
            go_frame
            have hA4 := hA.renew hK4
            obtain ⟨r2, hrr⟩ : ∃ r, r = wr.heap.size := ⟨_, rfl⟩
            have hrw2 : w.heap.size ≤ r2 := by omega
            have hrl4 : r2 < w4.heap.size := by omega
            rw [← hrr] at hA4 hrg4 ⊢
            clear hs4 hA hrg hK4 hleft hl0 left hrl2
            obtain ⟨wp, rfl⟩ : ∃ wp : World, wp = wr := ⟨_, rfl⟩
            have HR2 := Lib.hid hrr
            clear hrr
            go_loopg [167] M.length (fun g2 _s wr2 => ∃ left, left.length = g2 ∧ RangeAt wr2 Try.prog 61 b2 r2 ((M.map madeV).map fun x => (x, .bool true)) left ∧ TrueAt w wr2 w1.heap.size b1 b2 b3 S M T (PrT b1 b2 b3 r2) ∧ r2 < wr2.heap.size)
            case atStart => exact ⟨_, by simp, hrg4, hA4, hrl4⟩
            case round =>
              obtain ⟨left, hleft, hrg, hA, hrl2⟩ := hrel
              clear hA4 hrg4 hrl4
              go_wp2_with (at_next; refine wpList_next_raw _ rfl _ rfl 61 b2 r2 _ left rfl hrg ?_ ?_)
              · intro hl0
                go_wp2_with fail
                go_ret
                exact ⟨rfl, hA.book.since.mono (fun k hk h => by unfold From at h; omega)⟩
              · rintro ⟨q1, q2⟩ w5 left' hp hpl hrg5 hlt hmem hT5 hs5 hen
                have hs5' : wr.heap.size ≤ w5.heap.size := by omega
                clear hs5
                obtain ⟨⟨⟨a, wy, sq, s⟩, y⟩, hxin, heq⟩ := List.mem_map.1 hpl
                cases heq
                simp only [madeV] at hen ⊢
                have hA5 := hA.beside hT5 hrw2 (hrg.map_ne hA.m1) (hrg.map_ne hA.m2) (hrg.map_ne hA.m3)
                have hA6 := hA5.kept ((Turned.refl _ w5).alloc (.cells #[.int .u16 a, .int .i64 wy, .int .i64 sq, .string s, .int .i64 y] 61))
                have C := Lib.hid (wrote_p (a := a) (wy := wy) (sq := sq) (s := s) hA6.book (by omega))
                have hy := wrote_mem.2 hxin
                clear hA hrg hp hpl hmem hT5 hA6 hxin
                go_wp2_with fail
                refine C.out.mono ?_
                rintro e w6 ⟨A6, c6, rfl, hown6, hK6⟩
                have hX6 : Blk w6 w5.heap.size 61 #[.int .u16 a, .int .i64 wy, .int .i64 sq, .string s, .int .i64 y] := (Blk.new w5 _ _).turned hK6 (fun h => h)
                have hK7 : Kept w5 w6 := ((Turned.refl _ w5).alloc _).then_ hK6 (fun _ _ h => h)
                have hA6 := hA5.kept hK7
                have hrg6 := hrg5.turned hK7 (fun h => h) (fun h => h)
                have hsz6 := hK7.size
                have hrd := reads_ints hown6
                have hwl := wrote_le M (a, wy, sq, s)
                generalize wroteOf M (a, wy, sq, s) = ys at hrd hy hwl
                have x4 : w6.cell? ⟨w5.heap.size, 4, none⟩ = some (.int .i64 y) := hX6.cell 4
                clear C hK6 hK7 hA5 hrg5 hen hown6 hX6
                go_wp2_with fail
                obtain ⟨g1, rfl⟩ : ∃ g1 : Nat, g1 = gk := ⟨_, rfl⟩
                obtain ⟨wq, rfl⟩ : ∃ wq : World, wq = wr := ⟨_, rfl⟩
                go_loopg [16, 175] ys.length (fun g2 kn i2 wr2 => ∃ i : Nat, i + g2 = ys.length ∧ i2 = .int .i64 i ∧ kn = .bool (hasB y (ys.take i)) ∧ w6 = wr2)
                case atStart => exact ⟨0, Nat.zero_add _, rfl, rfl, rfl⟩
                case round =>
                  obtain ⟨i, hi, rfl, rfl, rfl⟩ := hrel
                  by_cases hil : i < ys.length
                  · obtain ⟨b5, o5, rfl, hb5, hc5⟩ := hrd i hil
                    obtain ⟨z, hz⟩ : ∃ z, z = ys[i] := ⟨_, rfl⟩
                    have HS := Lib.hid (hasB_take_succ (k := y) hil)
                    rw [← hz] at hc5 HS
                    have d0 : w6.cell? ⟨b5, o5 + i, none⟩ = some (.int .i64 z) := by simpa [Value.cells] using hc5 0 (by omega)
                    clear hc5 hz hrd hA6 hrg6 hy
                    generalize hh : hasB y (ys.take i) = kn
                    rw [hh] at HS
                    clear hh
                    cases kn
                    all_goals
                      go_wp2_with fail
                      go_roundg (gk - 1)
                      case measure => omega
                      case rel => exact ⟨i + 1, by omega, by go_num, by rw [HS.out]; rfl, rfl⟩
                  · have hii : i = ys.length := by omega
                    subst hii
                    rw [List.take_length, hasB_iff.2 hy]
                    clear hrd hy x4
                    go_wp2_with fail
                    go_roundg left'.length
                    case measure => omega
                    case rel => exact ⟨left', rfl, by simpa using hrg6, hA6, by omega⟩
          · rintro ⟨q1, q2⟩ w4 left' hp hpl hrg4 hlt hmem hT4 hs4 hen
            have hs4' : wr.heap.size ≤ w4.heap.size := by omega
            clear hs4
            obtain ⟨⟨xk, xb⟩, hxin, heq⟩ := List.mem_map.1 hpl
            cases heq
            simp only [sigV] at hen ⊢
            have hA4 := hA.beside hT4 hrw (hrg.map_ne hA.m1) (hrg.map_ne hA.m2) (hrg.map_ne hA.m3)
            obtain ⟨okk, okb⟩ := hA.o1 _ hxin
            have hA5 := hA4.kept ((Turned.refl _ w4).alloc (.cells #[.int .u16 xk, .string xb] 59))
            have C := Lib.hid (signed_p hA5.book okk okb)
            rw [hasB_iff.2 hxin] at C
            clear hA hrg hp hpl hmem hT4 hA5
            go_wp2_with fail
            refine C.out.mono ?_
            rintro e w6 ⟨rfl, hK6⟩
            have hK7 : Kept w4 w6 := ((Turned.refl _ w4).alloc _).then_ hK6 (fun _ _ h => h)
            have hA6 := hA4.kept hK7
            have hrg6 := hrg4.turned hK7 (fun h => h) (fun h => h)
            have hsz6 := hK7.size
            clear C hK6 hK7 hA4 hrg4 hen
            go_wp2_with fail
            go_roundg left'.length
            case measure => omega
            case rel => exact ⟨left', rfl, by simpa using hrg6, hA6, by omega⟩
end Go.Proofs.Ytkldepflfomegaa
