/- The law LedgerDoes: the walk. -/
import Derived.Test.YtkldepflfomegaaDoes0
import Derived.Deep.DeepCutAuto
import Derived.Deep.CutBlock
import Derived.BigQuiet
namespace Go.Proofs.Ytkldepflfomegaa
open Go.RowKit
open Go.Maps (Keyed)

set_option maxRecDepth 100000 in
set_option maxHeartbeats 4000000 in
theorem does_walk (A : Option Addr) (c : Nat) (l : List Act_) (w : World) (hl : l.length ≤ 9223372036854775807) (hr : ReadsT actV w w.heap.size 7 A l) (hok : ∀ x ∈ l, actOk x) :
    Calls Try.prog 3 #[.slice A l.length c] w fun e w' => e = .returned (.bool true) ∧ Kept w w' := by
  go_enter Try.func3, Try.ntmps3
  go_wp2_with fail
  refine (awake_any _).mono ?_
  rintro e w1 ⟨rfl, hK1⟩
  go_wp2_with fail
  have C := large_any A c w.heap.size l w1 hl (hr.below (fun k hk => hK1.block k hk (fun h => h)))
  obtain ⟨lg, hlg⟩ : ∃ b, b = largeR l := ⟨_, rfl⟩
  rw [← hlg] at C
  refine C.mono ?_
  rintro e w' ⟨rfl, rfl⟩
  have HLG := Lib.hid hlg
  clear C hlg
  rcases Bool.eq_false_or_eq_true lg with rfl | rfl
  · go_wp2_with fail
    go_ret
    exact ⟨rfl, hK1⟩
  go_wp2_with fail
  refine (new_any _).mono ?_
  rintro e w2 ⟨rfl, hB0, hK2, hs2⟩
  have hP2 := BookP.new hK1 hB0 hK2 hs2
  have hsz1 := hK1.size
  have hsz2 : w1.heap.size < w2.heap.size := by omega
  clear hB0 hs2 hK2
  have hT0 := Both0.new hP2
  clear hP2
  go_wp2_with fail
  go_loopg [5] l.length (fun gk i wr => ∃ (j : Nat) (S : List Sig) (M : List Made) (T : List Int), j + gk = l.length ∧ j ≤ 200 ∧ i = .int .i64 j ∧ S.length ≤ 2000 ∧ M.length ≤ j ∧ T.length ≤ j ∧ okM M ∧ Both0 w wr w1.heap.size w2.heap.size S M T)
  case atStart => exact ⟨0, [], [], [], Nat.zero_add _, by omega, rfl, by simp, by simp, by simp, by simp [okM], hT0⟩
  case round =>
    obtain ⟨j, S, M, T, hj, hj2, rfl, hSl, hMl, hTl, hoM, hT⟩ := hrel
    clear hT0
    have hsz := hT.size
    by_cases hjl : j < l.length ∧ j < 200
    · obtain ⟨hjl, hj3⟩ := hjl
      obtain ⟨b, o, rfl, hb, hc⟩ := (hr.below (w' := wr) (fun k hk => hT.since.block k hk (fun h => absurd h (by unfold From; omega)))) j hjl
      have hlong := long_le hjl hj3 HLG.out.symm
      obtain ⟨⟨kind, key, ⟨a, wy, sq, s⟩, y⟩, hx⟩ : ∃ x, x = l[j] := ⟨_, rfl⟩
      have hok1 : actOk ⟨kind, key, (a, wy, sq, s), y⟩ := by rw [hx]; exact hok _ (List.getElem_mem hjl)
      rw [← hx] at hc hlong
      replace hlong : s.size ≤ 200 := hlong
      obtain ⟨c0, c1, c2, c3, c4, c5, c6⟩ := act_cells hc
      clear hc hx hr hok
      have hi3 : (j : Int) < 200 := by omega
      obtain ⟨_, ok1, ok2, ok3⟩ := hok1
      have hB1 : Both w (wr.alloc (.cells #[.int .i64 kind, .int .u16 key, .int .u16 a, .int .i64 wy, .int .i64 sq, .string s, .int .i64 y] 38)) w1.heap.size w2.heap.size wr.heap.size S M T S M T := hT.renew ((Turned.refl _ wr).alloc _) (by simp)
      have hX1 : ActB (wr.alloc (.cells #[.int .i64 kind, .int .u16 key, .int .u16 a, .int .i64 wy, .int .i64 sq, .string s, .int .i64 y] 38)) wr.heap.size kind key a wy sq s y := Blk.new wr 38 #[.int .i64 kind, .int .u16 key, .int .u16 a, .int .i64 wy, .int .i64 sq, .string s, .int .i64 y]
      obtain ⟨xb, hxb⟩ : ∃ xb, xb = wr.heap.size := ⟨_, rfl⟩
      have Hxb := Lib.hid hxb
      clear hT
      go_upto_block 2 with (fail)
      rw [← hxb] at hB1 hX1 ⊢
      generalize wr.alloc (.cells #[.int .i64 kind, .int .u16 key, .int .u16 a, .int .i64 wy, .int .i64 sq, .string s, .int .i64 y] 38) = w3 at hB1 hX1 ⊢
      clear hxb c0 c1 c2 c3 c4 c5 c6
      go_cut [7] (fun _s7 wx => ∃ (S' : List Sig) (M' : List Made) (T' : List Int), S'.length ≤ 2000 ∧ M'.length ≤ j + 1 ∧ T'.length ≤ j + 1 ∧ okM M' ∧ Both w wx w1.heap.size w2.heap.size xb S' M' T' S' M' T' ∧ ActB wx xb kind key a wy sq s y)
      case first =>
        as_aux_lemma =>
        have x0 : w3.cell? ⟨xb, 0, none⟩ = some (.int .i64 kind) := Blk.cell hX1 0
        by_cases hk0 : kind = 0
        · as_aux_lemma =>
          have d0 : (kind == 0) = true := by simpa using hk0
          clear hk0
          have hB1d := hB1.kept ((Turned.refl _ w3).drew)
          have hX1d : ActB w3.drew xb kind key a wy sq s y := hX1
          have C1 := Lib.hid (both_sign (b := s) hB1d ok1 ok2.2.2.2 hSl)
          have hS5 := signR_2000 (k := key) (b := s) hSl
          have f1 : w3.drew.cell? ⟨xb, 1, none⟩ = some (.int .u16 key) := Blk.cell hX1d 1
          have f5 : w3.drew.cell? ⟨xb, 5, none⟩ = some (.string s) := Blk.cell hX1d 5
          go_wp2_with fail
          go_region_held3 (fun W => W.cell? ⟨xb, 1, none⟩ = some (.int .u16 key) ∧ W.cell? ⟨xb, 5, none⟩ = some (.string s))
            (first
              | exact ⟨f1, f5⟩
              | exact ⟨Blk.cell hX5 1, Blk.cell hX5 5⟩
              | exact ⟨Blk.cell hX6 1, Blk.cell hX6 5⟩)
            (first
              | (go_at_call 11; refine C1.out.mono ?_; rintro e w5 ⟨rfl, hB5, hT5⟩; have hX5 : ActB w5 xb kind key a wy sq s y := Blk.turned hX1d hT5 (fun h => h.2 rfl); have C2 := Lib.hid (both_rsign (b := s) hB5 ok1 hSl))
              | (go_at_call 12; refine C2.out.mono ?_; rintro e w6 ⟨rfl, hB6, hT6⟩; have hX6 : ActB w6 xb kind key a wy sq s y := Blk.turned hX5 hT6 (fun h => h.2 rfl)))
          all_goals
            go_wp2_with fail
            go_meet
            exact ⟨_, M, T, hS5, by omega, by omega, hoM, hB6, hX6⟩
        · have d0 : (kind == 0) = false := by simpa using hk0
          clear hk0
          by_cases hk1 : kind = 1
          · as_aux_lemma =>
            have d1 : (kind == 1) = true := by simpa using hk1
            clear hk1
            have hB1d := hB1.kept ((Turned.refl _ w3).drew)
            have hX1d : ActB w3.drew xb kind key a wy sq s y := hX1
            have C1 := Lib.hid (both_write (m := (a, wy, sq, s)) (y := y) hB1d ok2 ok3 (by omega))
            have hM5 := writeR_len M (a, wy, sq, s) y
            have hoM5 := okM_write (m := (a, wy, sq, s)) (y := y) hoM ok2 ok3
            have f2 : w3.drew.cell? ⟨xb, 2, none⟩ = some (.int .u16 a) := Blk.cell hX1d 2
            have f3 : w3.drew.cell? ⟨xb, 3, none⟩ = some (.int .i64 wy) := Blk.cell hX1d 3
            have f4 : w3.drew.cell? ⟨xb, 4, none⟩ = some (.int .i64 sq) := Blk.cell hX1d 4
            have f5 : w3.drew.cell? ⟨xb, 5, none⟩ = some (.string s) := Blk.cell hX1d 5
            have f6 : w3.drew.cell? ⟨xb, 6, none⟩ = some (.int .i64 y) := Blk.cell hX1d 6
            go_wp2_with fail
            go_region_held3 (fun W => W.cell? ⟨xb, 2, none⟩ = some (.int .u16 a) ∧ W.cell? ⟨xb, 3, none⟩ = some (.int .i64 wy) ∧ W.cell? ⟨xb, 4, none⟩ = some (.int .i64 sq) ∧ W.cell? ⟨xb, 5, none⟩ = some (.string s) ∧ W.cell? ⟨xb, 6, none⟩ = some (.int .i64 y))
              (first
                | exact ⟨f2, f3, f4, f5, f6⟩
                | exact ⟨Blk.cell hX5 2, Blk.cell hX5 3, Blk.cell hX5 4, Blk.cell hX5 5, Blk.cell hX5 6⟩
                | exact ⟨Blk.cell hX6 2, Blk.cell hX6 3, Blk.cell hX6 4, Blk.cell hX6 5, Blk.cell hX6 6⟩)
              (first
                | (go_at_call 13; refine C1.out.mono ?_; rintro e w5 ⟨rfl, hB5, hT5⟩; have hX5 : ActB w5 xb kind key a wy sq s y := Blk.turned hX1d hT5 (fun h => h.2 rfl); have C2 := Lib.hid (both_rwrite (m := (a, wy, sq, s)) (y := y) hB5 ok2 (by omega)))
                | (go_at_call 14; refine C2.out.mono ?_; rintro e w6 ⟨rfl, hB6, hT6⟩; have hX6 : ActB w6 xb kind key a wy sq s y := Blk.turned hX5 hT6 (fun h => h.2 rfl)))
            all_goals
              go_wp2_with fail
              go_meet
              exact ⟨S, _, T, hSl, by omega, by omega, hoM5, hB6, hX6⟩
          · have d1 : (kind == 1) = false := by simpa using hk1
            clear hk1
            by_cases hk2 : kind = 2
            · as_aux_lemma =>
              have d2 : (kind == 2) = true := by simpa using hk2
              clear hk2
              have hB1d := hB1.kept ((Turned.refl _ w3).drew)
              have hX1d : ActB w3.drew xb kind key a wy sq s y := hX1
              have C1 := Lib.hid (both_steal (a := key) hB1d ok1 (by omega))
              have hT5l := stealR_len T key
              have f1 : w3.drew.cell? ⟨xb, 1, none⟩ = some (.int .u16 key) := Blk.cell hX1d 1
              go_wp2_with fail
              go_region_held3 (fun W => W.cell? ⟨xb, 1, none⟩ = some (.int .u16 key))
                (first
                  | exact f1
                  | exact Blk.cell hX5 1
                  | exact Blk.cell hX6 1)
                (first
                  | (go_at_call 15; refine C1.out.mono ?_; rintro e w5 ⟨rfl, hB5, hT5⟩; have hX5 : ActB w5 xb kind key a wy sq s y := Blk.turned hX1d hT5 (fun h => h.2 rfl); have C2 := Lib.hid (both_rsteal (a := key) hB5 ok1 (by omega)))
                  | (go_at_call 16; refine C2.out.mono ?_; rintro e w6 ⟨rfl, hB6, hT6⟩; have hX6 : ActB w6 xb kind key a wy sq s y := Blk.turned hX5 hT6 (fun h => h.2 rfl)))
              all_goals
                go_wp2_with fail
                go_meet
                exact ⟨S, M, _, hSl, by omega, by omega, hoM, hB6, hX6⟩
            · have d2 : (kind == 2) = false := by simpa using hk2
              clear hk2
              by_cases hk3 : kind = 3
              · as_aux_lemma =>
                have d3 : (kind == 3) = true := by simpa using hk3
                clear hk3
                go_wp2_with fail
                obtain ⟨g1, rfl⟩ : ∃ g1 : Nat, g1 = gk := ⟨_, rfl⟩
                obtain ⟨wo, rfl⟩ : ∃ wo : World, wo = wr := ⟨_, rfl⟩
                go_loopg [7] 2100 (fun g2 i2 wr2 => ∃ (i : Nat) (S' : List Sig), i + g2 = 2100 ∧ i2 = .int .i64 i ∧ S'.length ≤ 2000 ∧ Both w wr2 w1.heap.size w2.heap.size xb S' M T S' M T ∧ ActB wr2 xb kind key a wy sq s y)
                case atStart => exact ⟨0, S, Nat.zero_add _, rfl, hSl, hB1, hX1⟩
                case round =>
                  obtain ⟨i, S1, hi, rfl, hS1, hB2, hX2⟩ := hrel
                  clear hB1 hX1 x0
                  have x6 : wr.cell? ⟨xb, 6, none⟩ = some (.int .i64 y) := Blk.cell hX2 6
                  by_cases hil : (i : Int) < y.tmod 2100
                  · have di : decide ((i : Int) < y.tmod 2100) = true := by simpa using hil
                    have hi2 := rem_lt y i hil
                    clear hil
                    have hB2d := hB2.kept ((Turned.refl _ wr).drew)
                    have hX2d : ActB wr.drew xb kind key a wy sq s y := hX2
                    have hbs : (bodyR s i).size ≤ maxLen := by have := bodyR_size s i; unfold maxLen; omega
                    have C1 := Lib.hid (body_any s i wr.drew hi2 hlong)
                    have hS5 := signR_2000 (k := key) (b := bodyR s i) hS1
                    have f1 : wr.drew.cell? ⟨xb, 1, none⟩ = some (.int .u16 key) := Blk.cell hX2d 1
                    have f5 : wr.drew.cell? ⟨xb, 5, none⟩ = some (.string s) := Blk.cell hX2d 5
                    go_wp2_with fail
                    go_region_held3 (fun W => W.cell? ⟨xb, 1, none⟩ = some (.int .u16 key) ∧ W.cell? ⟨xb, 5, none⟩ = some (.string s))
                      (first
                        | exact ⟨f1, f5⟩
                        | exact ⟨Blk.cell hX5 1, Blk.cell hX5 5⟩
                        | exact ⟨Blk.cell hX6 1, Blk.cell hX6 5⟩
                        | exact ⟨Blk.cell hX7 1, Blk.cell hX7 5⟩
                        | exact ⟨Blk.cell hX8 1, Blk.cell hX8 5⟩)
                      (first
                        | (go_at_call 11; refine C2.out.mono ?_; rintro e w6 ⟨rfl, hB6, hT6⟩; have hX6 : ActB w6 xb kind key a wy sq s y := Blk.turned hX5 hT6 (fun h => h.2 rfl); have C3 := Lib.hid (body_any s i w6 hi2 hlong))
                        | (go_at_call 12; refine C4.out.mono ?_; rintro e w8 ⟨rfl, hB8, hT8⟩; have hX8 : ActB w8 xb kind key a wy sq s y := Blk.turned hX7 hT8 (fun h => h.2 rfl))
                        | (go_at_call 17; refine C3.out.mono ?_; rintro e w7 ⟨rfl, hK7⟩; have hB7 := hB6.kept hK7; have hX7 : ActB w7 xb kind key a wy sq s y := Blk.turned hX6 hK7 (fun h => h); have C4 := Lib.hid (both_rsign (b := bodyR s i) hB7 ok1 hS1))
                        | (go_at_call 17; refine C1.out.mono ?_; rintro e w5 ⟨rfl, hK5⟩; have hB5 := hB2d.kept hK5; have hX5 : ActB w5 xb kind key a wy sq s y := Blk.turned hX2d hK5 (fun h => h); have C2 := Lib.hid (both_sign (b := bodyR s i) hB5 ok1 hbs hS1)))
                    all_goals
                      go_wp2_with fail
                      go_roundg (gk - 1)
                      case measure => omega
                      case rel => exact ⟨i + 1, _, by omega, by go_num, hS5, hB8, hX8⟩
                  · have di : decide ((i : Int) < y.tmod 2100) = false := by simpa using hil
                    clear hil
                    go_wp2_with fail
                    go_meet
                    exact ⟨S1, M, T, hS1, by omega, by omega, hoM, hB2, hX2⟩
              · have d3 : (kind == 3) = false := by simpa using hk3
                clear hk3
                go_wp2_with fail
                go_meet
                exact ⟨S, M, T, hSl, by omega, by omega, hoM, hB1, hX1⟩
      case rest =>
        as_aux_lemma =>
        obtain ⟨S5, M5, T5, hS5, hM5, hT5, hoM5, hB5, hX5⟩ := hcut
        clear hB1 hX1 hSl hMl hTl hoM
        go_wp2_with fail
        refine (both_len hB5).mono ?_
        rintro e w6 ⟨rfl, hK6⟩
        have hB6 := hB5.kept hK6
        have hX6 : ActB w6 xb kind key a wy sq s y := Blk.turned hX5 hK6 (fun h => h)
        clear hB5 hX5 hK6
        go_upto_region 28 with (fail)
        go_cut [169] (fun s169 wx => s169 = .bool false ∧ Both w wx w1.heap.size w2.heap.size xb S5 M5 T5 S5 M5 T5 ∧ ActB wx xb kind key a wy sq s y)
        case first =>
          as_aux_lemma =>
          have hB6d := hB6.kept ((Turned.refl _ w6).drew)
          have hX6d : ActB w6.drew xb kind key a wy sq s y := hX6
          have C1 := Lib.hid (both_signed (b := s) hB6d ok1 ok2.2.2.2)
          obtain ⟨A1, k1, A2, k2, A3, k3, hq, q0, q1, q2⟩ := both_cells hB6d
          have f1 : w6.drew.cell? ⟨xb, 1, none⟩ = some (.int .u16 key) := Blk.cell hX6d 1
          have f5 : w6.drew.cell? ⟨xb, 5, none⟩ = some (.string s) := Blk.cell hX6d 5
          generalize hr1 : hasB (key, s) S5 = r1 at C1
          generalize hr3 : hasB key T5 = r3
          clear hB6 hX6
          go_region_held3 (fun W => W.cell? ⟨xb, 1, none⟩ = some (.int .u16 key) ∧ W.cell? ⟨xb, 5, none⟩ = some (.string s) ∧ W.cell? ⟨w2.heap.size, 0, none⟩ = some (.slice A1 S5.length k1) ∧ W.cell? ⟨w2.heap.size, 1, none⟩ = some (.slice A2 M5.length k2) ∧ W.cell? ⟨w2.heap.size, 2, none⟩ = some (.slice A3 T5.length k3))
            (first
              | exact ⟨f1, f5, q0, q1, q2⟩
              | exact F7
              | exact F8
              | exact F9
              | exact F10)
            (first
              | (go_at_call 19; refine C1.out.mono ?_; rintro e w7 ⟨rfl, hK7⟩; have hB7 := hB6d.kept hK7; have hX7 : ActB w7 xb kind key a wy sq s y := Blk.turned hX6d hK7 (fun h => h); have F7 := does_facts hX7 hK7 hq q0 q1 q2; have C2 := Lib.hid (both_rsigned (k := key) (b := s) hB7 hS5); rw [hr1] at C2)
              | (go_at_call 20; refine C2.out.mono ?_; rintro e w8 ⟨rfl, hK8⟩; have hB8 := hB7.kept hK8; have hX8 : ActB w8 xb kind key a wy sq s y := Blk.turned hX7 hK8 (fun h => h); have F8 := does_facts hX8 (hK7.then_ hK8 (fun _ _ h => h)) hq q0 q1 q2; have C3 := Lib.hid (both_stolen hB8 ok1); rw [hr3] at C3)
              | (go_at_call 21; refine C3.out.mono ?_; rintro e w9 ⟨rfl, hK9⟩; have hB9 := hB8.kept hK9; have hX9 : ActB w9 xb kind key a wy sq s y := Blk.turned hX8 hK9 (fun h => h); have F9 := does_facts hX9 ((hK7.then_ hK8 (fun _ _ h => h)).then_ hK9 (fun _ _ h => h)) hq q0 q1 q2; have C4 := Lib.hid (both_rstolen (k := key) hB9 (by omega)); rw [hr3] at C4)
              | (go_at_call 22; refine C4.out.mono ?_; rintro e w10 ⟨rfl, hK10⟩; have hB10 := hB9.kept hK10; have hX10 : ActB w10 xb kind key a wy sq s y := Blk.turned hX9 hK10 (fun h => h); have F10 := does_facts hX10 (((hK7.then_ hK8 (fun _ _ h => h)).then_ hK9 (fun _ _ h => h)).then_ hK10 (fun _ _ h => h)) hq q0 q1 q2))
          all_goals
            go_wp2_with fail
            go_meet
            exact ⟨rfl, hB10, hX10⟩
        case rest =>
          as_aux_lemma =>
          obtain ⟨rfl, hB7, hX7⟩ := hcut
          clear hB6 hX6
          go_upto_region 30 with (fail)
          go_cut [11, 12] (fun s11 s12 wx => ∃ A1 k1 A2 k2, s11 = .slice A1 (wroteOf M5 (a, wy, sq, s)).length k1 ∧ s12 = .slice A2 (wroteOf M5 (a, wy, sq, s)).length k2 ∧ ReadsT (.int .i64) wx wx.heap.size 1 A1 (wroteOf M5 (a, wy, sq, s)) ∧ ReadsT (.int .i64) wx wx.heap.size 1 A2 (wroteOf M5 (a, wy, sq, s)) ∧ Both w wx w1.heap.size w2.heap.size xb S5 M5 T5 S5 M5 T5 ∧ ActB wx xb kind key a wy sq s y)
          case first =>
            as_aux_lemma =>
            obtain ⟨w7, rfl⟩ : ∃ w7, w7 = wc := ⟨_, rfl⟩
            have hB7d := hB7.kept ((Turned.refl _ w7).drew)
            have hX7d : ActB w7.drew xb kind key a wy sq s y := hX7
            have C1 := Lib.hid (both_wrote (a := a) (wy := wy) (sq := sq) (s := s) hB7d (by omega))
            have f2 : w7.drew.cell? ⟨xb, 2, none⟩ = some (.int .u16 a) := Blk.cell hX7d 2
            have f3 : w7.drew.cell? ⟨xb, 3, none⟩ = some (.int .i64 wy) := Blk.cell hX7d 3
            have f4 : w7.drew.cell? ⟨xb, 4, none⟩ = some (.int .i64 sq) := Blk.cell hX7d 4
            have f5 : w7.drew.cell? ⟨xb, 5, none⟩ = some (.string s) := Blk.cell hX7d 5
            generalize hys : wroteOf M5 (a, wy, sq, s) = ys at C1 ⊢
            go_region_held3 (fun W => W.cell? ⟨xb, 2, none⟩ = some (.int .u16 a) ∧ W.cell? ⟨xb, 3, none⟩ = some (.int .i64 wy) ∧ W.cell? ⟨xb, 4, none⟩ = some (.int .i64 sq) ∧ W.cell? ⟨xb, 5, none⟩ = some (.string s))
              (first
                | exact ⟨f2, f3, f4, f5⟩
                | exact ⟨Blk.cell hX8 2, Blk.cell hX8 3, Blk.cell hX8 4, Blk.cell hX8 5⟩
                | exact ⟨Blk.cell hX9 2, Blk.cell hX9 3, Blk.cell hX9 4, Blk.cell hX9 5⟩)
              (first
                | (go_at_call 23; refine C1.out.mono ?_; rintro e w8 ⟨A8, k8, rfl, hown8, hK8⟩; have hB8 := hB7d.kept hK8; have hX8 : ActB w8 xb kind key a wy sq s y := Blk.turned hX7d hK8 (fun h => h); have C2 := Lib.hid (both_rwrote (a := a) (wy := wy) (sq := sq) (s := s) hB8 (by omega)); rw [hys] at C2)
                | (go_at_call 24; refine C2.out.mono ?_; rintro e w9 ⟨A9, k9, rfl, hown9, hK9⟩; have hB9 := hB8.kept hK9; have hX9 : ActB w9 xb kind key a wy sq s y := Blk.turned hX8 hK9 (fun h => h); have hrd8 := (reads_ints hown8).kept hK9; have hrd9 := reads_ints hown9))
            all_goals
              go_wp2_with fail
              go_meet
              subst hys
              exact ⟨_, _, _, _, rfl, rfl, hrd8, hrd9, hB9, hX9⟩
          case rest =>
            as_aux_lemma =>
            obtain ⟨A1, k1, A2, k2, rfl, rfl, hrd1, hrd2, hB8, hX8⟩ := hcut
            clear hB7 hX7
            have hwl := wrote_le M5 (a, wy, sq, s)
            generalize wroteOf M5 (a, wy, sq, s) = ys at hrd1 hrd2 hwl ⊢
            obtain ⟨w8, rfl⟩ : ∃ w8, w8 = wc := ⟨_, rfl⟩
            go_wp2_with fail
            obtain ⟨g1, rfl⟩ : ∃ g1 : Nat, g1 = gk := ⟨_, rfl⟩
            obtain ⟨wo, rfl⟩ : ∃ wo : World, wo = wr := ⟨_, rfl⟩
            go_loopg [185] ys.length (fun g2 i2 wr2 => ∃ i n : Nat, i + g2 = ys.length ∧ i2 = .int .i64 i ∧ w8.drewN n = wr2)
            case atStart => exact ⟨0, 0, Nat.zero_add _, rfl, rfl⟩
            case round =>
              obtain ⟨i, n, hi, rfl, rfl⟩ := hrel
              by_cases hil : i < ys.length
              · obtain ⟨b2, o2, rfl, hb2, hc2⟩ := hrd1 i hil
                obtain ⟨b3, o3, rfl, hb3, hc3⟩ := hrd2 i hil
                obtain ⟨z, hz⟩ : ∃ z, z = ys[i] := ⟨_, rfl⟩
                rw [← hz] at hc2 hc3
                have d0 : w8.cell? ⟨b2, o2 + i, none⟩ = some (.int .i64 z) := by simpa [Value.cells] using hc2 0 (by omega)
                have d1 : w8.cell? ⟨b3, o3 + i, none⟩ = some (.int .i64 z) := by simpa [Value.cells] using hc3 0 (by omega)
                have i1 : (i : Int) < (ys.length : Int) := by omega
                have i2 : (0 : Int) ≤ (i : Int) := by omega
                clear hc2 hc3 hz hrd1 hrd2 hB8 hX8
                go_wp2_with fail
                go_quiet (fail)
                go_wp2_with fail
                go_roundg (gk - 1)
                case measure => omega
                case rel => exact ⟨i + 1, n + nq, by omega, by go_num, rfl⟩
              · clear hrd1 hrd2
                have hB9 := hB8.kept ((Turned.refl _ w8).drewN n)
                have hK9 : Kept w8 (w8.drewN n) := (Turned.refl _ w8).drewN n
                have hX9 : ActB (w8.drewN n) xb kind key a wy sq s y := Blk.turned hX8 hK9 (fun h => h)
                clear hK9
                clear hB8 hX8
                obtain ⟨w9, hw9⟩ : ∃ w9, w9 = w8.drewN n := ⟨_, rfl⟩
                rw [← hw9] at hB9 hX9 ⊢
                clear hw9
                go_upto_region 39 with (fail)
                go_cut [14, 15] (fun s14 s15 wx => ∃ A1 k1 A2 k2, s14 = .slice A1 (macsOf M5 a).length k1 ∧ s15 = .slice A2 (macsOf M5 a).length k2 ∧ ReadsT macV wx wx.heap.size 4 A1 (macsOf M5 a) ∧ ReadsT macV wx wx.heap.size 4 A2 (macsOf M5 a) ∧ Both w wx w1.heap.size w2.heap.size xb S5 M5 T5 S5 M5 T5 ∧ ActB wx xb kind key a wy sq s y)
                case first =>
                  as_aux_lemma =>
                  have hB9d := hB9.kept ((Turned.refl _ w9).drew)
                  have hX9d : ActB w9.drew xb kind key a wy sq s y := hX9
                  have C1 := Lib.hid (both_macs (ch := a) hB9d (by omega) (fun x hx => (hoM5 x hx).1))
                  have f2 : w9.drew.cell? ⟨xb, 2, none⟩ = some (.int .u16 a) := Blk.cell hX9d 2
                  generalize hms : macsOf M5 a = ms at C1
                  clear hB9 hX9
                  go_region_held3 (fun W => W.cell? ⟨xb, 2, none⟩ = some (.int .u16 a))
                    (first
                      | exact f2
                      | exact Blk.cell hX10 2
                      | exact Blk.cell hX11 2)
                    (first
                      | (go_at_call 25; refine C1.out.mono ?_; rintro e w10 ⟨A8, k8, rfl, hown8, hK8⟩; have hB10 := hB9d.kept hK8; have hX10 : ActB w10 xb kind key a wy sq s y := Blk.turned hX9d hK8 (fun h => h); have C2 := Lib.hid (both_rmacs (ch := a) hB10 (by omega)); rw [hms] at C2)
                      | (go_at_call 26; refine C2.out.mono ?_; rintro e w11 ⟨A9, k9, rfl, hown9, hK9⟩; have hB11 := hB10.kept hK9; have hX11 : ActB w11 xb kind key a wy sq s y := Blk.turned hX10 hK9 (fun h => h); have hrd8 := (macs_flat_reads hown8).kept hK9; have hrd9 := macs_flat_reads hown9))
                  all_goals
                    go_wp2_with fail
                    go_meet
                    subst hms
                    exact ⟨_, _, _, _, rfl, rfl, hrd8, hrd9, hB11, hX11⟩
                case rest =>
                  as_aux_lemma =>
                  obtain ⟨A3, k3, A4, k4, rfl, rfl, hrd1, hrd2, hB10, hX10⟩ := hcut
                  clear hB9 hX9
                  have hml := macs_le M5 a
                  generalize macsOf M5 a = ms at hrd1 hrd2 hml ⊢
                  go_upto_region 40 with (fail)
                  go_cut [224] (fun s224 wx => s224 = .bool false ∧ ReadsT macV wx wx.heap.size 4 A3 ms ∧ ReadsT macV wx wx.heap.size 4 A4 ms ∧ Both0 w wx w1.heap.size w2.heap.size S5 M5 T5)
                  case first =>
                    as_aux_lemma =>
                    obtain ⟨w10, rfl⟩ : ∃ w10, w10 = wc := ⟨_, rfl⟩
                    have hB10d := hB10.kept ((Turned.refl _ w10).drew)
                    have hX10d : ActB w10.drew xb kind key a wy sq s y := hX10
                    have hrd1d := hrd1.kept ((Turned.refl _ w10).drew)
                    have hrd2d := hrd2.kept ((Turned.refl _ w10).drew)
                    have C1 := Lib.hid (both_bodies (k := key) hB10d hS5)
                    have f1 : w10.drew.cell? ⟨xb, 1, none⟩ = some (.int .u16 key) := Blk.cell hX10d 1
                    have hbl := bodies_le S5 key
                    generalize hbs : bodiesOf S5 key = bs at C1 hbl
                    clear hB10 hX10 hrd1 hrd2
                    go_region_held3 (fun W => W.cell? ⟨xb, 1, none⟩ = some (.int .u16 key))
                      (first
                        | exact f1
                        | exact Blk.cell hX11 1
                        | exact Blk.cell hX12 1
                        | exact Blk.cell hX13 1)
                      (first
                        | (go_at_call 28; refine C1.out.mono ?_; rintro e w11 ⟨A8, k8, rfl, hown8, hK8⟩; have hB11 := hB10d.kept hK8; have hX11 : ActB w11 xb kind key a wy sq s y := Blk.turned hX10d hK8 (fun h => h); have C2 := Lib.hid (both_rbodies (k := key) hB11 hS5); rw [hbs] at C2)
                        | (go_at_call 29; refine C2.out.mono ?_; rintro e w12 ⟨A9, k9, rfl, hown9, hK9⟩; have hB12 := hB11.kept hK9; have hX12 : ActB w12 xb kind key a wy sq s y := Blk.turned hX11 hK9 (fun h => h); have C3 := Lib.hid (texts_any A8 A9 k8 k9 _ _ bs bs w12 (by omega) (by omega) ((reads_strs hown8).kept hK9) (reads_strs hown9)); rw [decide_eq_true rfl] at C3)
                        | (go_at_call 27; refine C3.out.mono ?_; rintro e w13 ⟨rfl, n3, rfl⟩; have hK13 : Kept w12 (w12.drewN n3) := (Turned.refl _ w12).drewN n3; have hB13 := hB12.kept hK13; have hX13 : ActB (w12.drewN n3) xb kind key a wy sq s y := Blk.turned hX12 hK13 (fun h => h); have hrd3 := ((hrd1d.kept hK8).kept hK9).kept hK13; have hrd4 := ((hrd2d.kept hK8).kept hK9).kept hK13))
                    all_goals
                      go_wp2_with fail
                      go_meet
                      exact ⟨rfl, hrd3, hrd4, hB13.drop⟩
                  case rest =>
                    as_aux_lemma =>
                    obtain ⟨rfl, hrd3, hrd4, hB11⟩ := hcut
                    clear hB10 hX10 hrd1 hrd2
                    obtain ⟨w11, rfl⟩ : ∃ w11, w11 = wc := ⟨_, rfl⟩
                    go_wp2_with fail
                    go_loopg [227] ms.length (fun g2 i2 wr2 => ∃ i n : Nat, i + g2 = ms.length ∧ i2 = .int .i64 i ∧ w11.drewN n = wr2)
                    case atStart => exact ⟨0, 0, Nat.zero_add _, rfl, rfl⟩
                    case round =>
                      obtain ⟨i, n, hi, rfl, rfl⟩ := hrel
                      by_cases hil : i < ms.length
                      · obtain ⟨b2, o2, rfl, hb2, hc2⟩ := hrd3 i hil
                        obtain ⟨b3, o3, rfl, hb3, hc3⟩ := hrd4 i hil
                        obtain ⟨⟨ma, mb, mc, md⟩, hz⟩ : ∃ z, z = ms[i] := ⟨_, rfl⟩
                        rw [← hz] at hc2 hc3
                        have u0 : w11.cell? ⟨b2, o2 + i * 4, none⟩ = some (.int .u16 ma) := hc2 0 (by omega)
                        have p1 : w11.cell? ⟨b2, o2 + i * 4 + 1, none⟩ = some (.int .i64 mb) := hc2 1 (by omega)
                        have p2 : w11.cell? ⟨b2, o2 + i * 4 + 2, none⟩ = some (.int .i64 mc) := hc2 2 (by omega)
                        have p3 : w11.cell? ⟨b2, o2 + i * 4 + 3, none⟩ = some (.string md) := hc2 3 (by omega)
                        have p4 : w11.cell? ⟨b3, o3 + i * 4, none⟩ = some (.int .u16 ma) := hc3 0 (by omega)
                        have p5 : w11.cell? ⟨b3, o3 + i * 4 + 1, none⟩ = some (.int .i64 mb) := hc3 1 (by omega)
                        have p6 : w11.cell? ⟨b3, o3 + i * 4 + 2, none⟩ = some (.int .i64 mc) := hc3 2 (by omega)
                        have p7 : w11.cell? ⟨b3, o3 + i * 4 + 3, none⟩ = some (.string md) := hc3 3 (by omega)
                        have heq := fun W => eq_mac ma mb mc md ma mb mc md W
                        rw [decide_eq_true rfl] at heq
                        have i1 : (i : Int) < (ms.length : Int) := by omega
                        have i2 : (0 : Int) ≤ (i : Int) := by omega
                        clear hc2 hc3 hz hrd3 hrd4 hB11
                        go_wp2_with fail
                        go_quiet (fail)
                        go_wp2_with fail
                        go_roundg (gk - 1)
                        case measure => omega
                        case rel => exact ⟨i + 1, n + nq, by omega, by go_num, rfl⟩
                      · clear hrd3 hrd4
                        go_wp2_with fail
                        go_roundg (g1 - 1)
                        case measure => omega
                        case rel => exact ⟨j + 1, S5, M5, T5, by omega, by omega, by go_num, hS5, hM5, hT5, hoM5, hB11.kept ((Turned.refl _ w11).drewN n)⟩
    · have hend : l.length ≤ j ∨ (j < l.length ∧ decide ((j : Int) < 200) = false) := by
        by_cases h : j < l.length
        · exact .inr ⟨h, by simp; omega⟩
        · exact .inl (by omega)
      clear hr hjl hok
      rcases hend with hend | ⟨hend, hend2⟩
      all_goals
        go_wp2_with fail
        go_ret
        exact ⟨rfl, hT.since.mono (fun k hk h => by unfold From at h; omega)⟩
end Go.Proofs.Ytkldepflfomegaa
