/- CacheRoom: the walk. -/
import Derived.Test.YtnicfiochnkjbaaC19
namespace Go.Proofs.Ytnicfiochnkjbaa
open Go.RowKit

set_option maxRecDepth 100000 in
set_option maxHeartbeats 4000000 in
theorem room_walk (room : Int) (A : Option Addr) (cap : Nat) (l : List CAct) (w : World) (hroom : i64 room) (hl : l.length ≤ maxLen) (hr : ReadsT cactV w w.heap.size 8 A l) (hok : ∀ x ∈ l, cactOk w x) :
    Calls Try.prog 7 #[.int .i64 room, .slice A l.length cap] w fun e w' => e = .returned (.bool true) ∧ Kept w w' := by
  have AW := Lib.hid (awake18_any w)
  have HR := Lib.hid hr
  have HOK := Lib.hid hok
  unfold maxLen at hl
  clear hr hok
  go_enter Try.func7, Try.ntmps7
  go_wp2_with fail
  refine AW.out.mono ?_
  rintro e w1 ⟨rfl, hK1⟩
  clear AW
  have N := Lib.hid (new_p hK1 hroom)
  go_wp2_with fail
  refine N.out.mono ?_
  rintro e w2 h
  rcases h with ⟨h, rfl, rfl⟩ | ⟨⟨hr1, hr2⟩, p, mb, rfl, hC2, _, _, _⟩
  · clear N
    rcases h with h | h
    · have d1 : decide (room < 1) = true := by simpa using h
      go_wp2_with fail
      go_ret
      exact ⟨rfl, hK1⟩
    · have d1 : decide (room < 1) = false := by rw [decide_eq_false_iff_not]; omega
      have d2 : decide (100 < room) = true := by simpa using h
      go_wp2_with fail
      go_ret
      exact ⟨rfl, hK1⟩
  clear N hK1
  go_wp2_with fail
  go_loopg [6] l.length (fun gk i wr => ∃ (j n : Nat) (X : List Ent), j + gk = l.length ∧ i = .int .i64 j ∧ n ≤ 2 * j ∧ j ≤ 200 ∧ (X.length : Int) ≤ room ∧ CacheP w wr p mb room n X)
  case atStart => exact ⟨0, 0, [], Nat.zero_add _, rfl, Nat.le_refl _, by omega, by simp; omega, hC2⟩
  case round =>
    clear hC2
    obtain ⟨j, n, X, hj, rfl, hn, hj2, hXl, hC⟩ := hrel
    by_cases hjl : j < l.length
    · by_cases hj200 : j < 200
      · obtain ⟨b, o, rfl, hbl, hcell⟩ := HR.out j hjl
        obtain ⟨x, hxe⟩ : ∃ x, x = l[j] := ⟨_, rfl⟩
        rw [← hxe] at hcell
        have hok : cactOk w x := by rw [hxe]; exact HOK.out _ (List.getElem_mem hjl)
        have HXE := Lib.hid hxe
        have hrng : wr.rangeAt b (o + j * 8) x.cs.toList := act8_cells (fun i hi => (hC.since.cell (p := ⟨b, o + j * 8 + i, none⟩) hbl (fun h => h)).trans (hcell i hi))
        have hBz : Hid (Blk (wr.alloc (.cells zAct 36)) wr.heap.size 36 zAct) := Lib.hid (Blk.new wr _ _)
        have i0 : (0 : Int) ≤ (j : Int) := by omega
        have i1 : (j : Int) < (l.length : Int) := by omega
        have d200 : decide ((j : Int) < 200) = true := by rw [decide_eq_true_eq]; omega
        clear hxe hcell
        go_wp2_with (first
          | (refine wpList_load_mid rfl 36 (.tmp 36) rfl b (o + j * 8) rfl x.cs.toList _ hrng Try.underlying36 rfl info_cact ?_)
          | (refine wpList_store_blk rfl (.tmp 7) (.tmp 37) rfl rfl (cs' := x.cs) rfl hBz.out info_cact rfl (cact_one x) ?_; intro w3 hX3 hT3 hs3; have e3 : w3.cell? ⟨wr.heap.size, 3, none⟩ = some (.slice x.A x.who.length x.c) := ActAt.c3 hX3))
        have hlt := hC.lt
        have hT03 : Turned (fun k => wr.heap.size ≤ k) wr w3 := ((Turned.refl _ wr).alloc _).then_ hT3 (fun i hi h => by omega)
        have hC3 := hC.beside hT03 (by omega) (by omega) (fun k hk => by omega)
        have hX3' : ActAt w3 wr.heap.size x := hX3
        have hgp : wr.heap.size ≠ p := by omega
        have hgm : wr.heap.size ≠ mb := by omega
        have hgf : ¬ CFoot p mb wr.heap.size := fun h => by rcases h with h | h <;> omega
        clear hrng hBz hT3 hs3 hX3 hC hT03 hlt
        refine (large_act hC3.since hok).mono ?_
        rintro e wx ⟨rfl, rfl⟩
        clear e3
        rcases hla : largeR 600 x.who with _ | _
        · have hsm := small_of hla
          have hXk := hC3.keys
          have e0 := hX3'.c0
          have hX6 : X.length ≤ 100 := by omega
          clear hla
          by_cases k0 : x.kind = 0
          · have b0 : (x.kind == 0) = true := by simpa using k0
            have e6 := hX3'.c6
            have e7 := hX3'.c7
            have CP := Lib.hid (put_act hC3 hr1 (by omega) (by omega) hok hsm)
            clear k0
            rcases hpe : decide (putE x.who x.a = 0) with _ | _
            · have hpe' := of_decide_eq_false hpe
              have d0 : (putE x.who x.a != 0) = true := by simpa using hpe'
              have hXE : putXE room X x.ent = X := by unfold putXE; rw [if_neg]; exact hpe'
              have CP2 := CP.out
              rw [hXE] at CP2
              have CP3 := Lib.hid CP2
              clear CP CP2 hXE hpe hpe'
              go_wp2_with (first | (go_at_call 17; refine (len_p hC3).mono ?_; rintro e wx ⟨rfl, rfl⟩) | (refine wpList_load_mid rfl 25 (.tmp 49) rfl wr.heap.size 1 rfl x.key.toList _ (ActAt.key hX3') Try.underlying25 rfl info_key ?_))
              refine CP3.out.mono ?_
              rintro e w5 ⟨rfl, hC5, hT5⟩
              clear CP3
              have dn : ((X.length : Int) != (X.length : Int)) = false := by simp
              go_wp2_with (first | (go_at_call 17; refine (len_p hC5).mono ?_; rintro e wx ⟨rfl, rfl⟩))
              go_roundg (gk - 1)
              case measure => omega
              case rel => exact ⟨j + 1, n + 1, X, by omega, by go_num, by omega, by omega, by omega, hC5⟩
            · have hpe' := of_decide_eq_true hpe
              have d0 : (putE x.who x.a != 0) = false := by simpa using hpe'
              have hXE : putXE room X x.ent = putX room X x.ent := by unfold putXE; rw [if_pos]; exact hpe'
              have hXE2 : putXE room (putX room X x.ent) x.ent = putX room X x.ent := by unfold putXE; rw [if_pos, putX_twice hr1 hXl]; exact hpe'
              have hge := putX_ge (x := x.ent) hr1 hXl hXk
              have hle := putX_len (x := x.ent) hr1 hXl
              have CP2 := CP.out
              rw [hXE] at CP2
              have CP3 := Lib.hid CP2
              have HXE2 := Lib.hid hXE2
              clear CP CP2 hXE hXE2 hpe hpe'
              generalize putX room X x.ent = X' at CP3 HXE2 hge hle
              go_wp2_with (first | (go_at_call 17; refine (len_p hC3).mono ?_; rintro e wx ⟨rfl, rfl⟩) | (refine wpList_load_mid rfl 25 (.tmp 49) rfl wr.heap.size 1 rfl x.key.toList _ (ActAt.key hX3') Try.underlying25 rfl info_key ?_))
              refine CP3.out.mono ?_
              rintro e w5 ⟨rfl, hC5, hT5⟩
              have hX5 := hX3'.turned hT5 hgf
              have g6 := hX5.c6
              have g7 := hX5.c7
              have CQ := put_act hC5 hr1 (by omega) (by omega) hok hsm
              rw [HXE2.out] at CQ
              have DQ := Lib.hid CQ
              clear CP3 CQ e6 e7 HXE2
              go_wp2_with (first | (go_at_call 17; refine (len_p hC5).mono ?_; rintro e wx ⟨rfl, rfl⟩) | (refine wpList_load_mid rfl 25 (.tmp 64) rfl wr.heap.size 1 rfl x.key.toList _ (ActAt.key hX5) Try.underlying25 rfl info_key ?_))
              refine DQ.out.mono ?_
              rintro e w6 ⟨rfl, hC6, hT6⟩
              have dn : ((X'.length : Int) != (X'.length : Int)) = false := by simp
              have dg : decide ((X.length : Int) + 1 < (X'.length : Int)) = false := by rw [decide_eq_false_iff_not]; omega
              have dl : decide ((X'.length : Int) < (X.length : Int)) = false := by rw [decide_eq_false_iff_not]; omega
              have dgn : decide (X.length + 1 < X'.length) = false := by rw [decide_eq_false_iff_not]; omega
              have dln : decide (X'.length < X.length) = false := by rw [decide_eq_false_iff_not]; omega
              clear DQ
              have t1 : decide (room < (X'.length : Int)) = false := by rw [decide_eq_false_iff_not]; omega
              have t2 : decide ((X'.length : Int) < 0) = false := by rw [decide_eq_false_iff_not]; omega
              go_wp2_with (first | (go_at_call 17; refine (len_p hC6).mono ?_; rintro e wx ⟨rfl, rfl⟩))
              go_roundg (gk - 1)
              case measure => omega
              case rel => exact ⟨j + 1, n + 1 + 1, X', by omega, by go_num, by omega, by omega, by omega, hC6⟩
          · have b0 : (x.kind == 0) = false := by simpa using k0
            by_cases k1 : x.kind = 1
            · have b1 : (x.kind == 1) = true := by simpa using k1
              have e7 := hX3'.c7
              have CG := Lib.hid (get_act hC3 (by omega) hok hsm x.t)
              have hgl := getX_len (q := x.q) (ver := x.ver) (turn := x.turn) (t := x.t) hXk
              have HHL := Lib.hid (fun e h => getX_hit_len (q := x.q) (ver := x.ver) (turn := x.turn) (t := x.t) (e := e) hXk h)
              clear k0 k1
              rcases hh : hitX x.q x.ver x.turn x.t X with _ | en
              · have CG2 := CG.out
                rw [hh] at CG2
                have CG3 := Lib.hid CG2
                clear CG CG2 HHL hh
                generalize getX x.q x.ver x.turn x.t X = X' at CG3 hgl
                go_wp2_with (first | (go_at_call 17; refine (len_p hC3).mono ?_; rintro e wx ⟨rfl, rfl⟩) | (refine wpList_load_mid rfl 25 (.tmp 90) rfl wr.heap.size 1 rfl x.key.toList _ (ActAt.key hX3') Try.underlying25 rfl info_key ?_))
                refine CG3.out.mono ?_
                rintro e w5 ⟨rfl, hC5, hT5⟩
                clear CG3
                have t1 : decide (room < (X'.length : Int)) = false := by rw [decide_eq_false_iff_not]; omega
                have t2 : decide ((X'.length : Int) < 0) = false := by rw [decide_eq_false_iff_not]; omega
                go_wp2_with (first | (go_at_call 17; refine (len_p hC5).mono ?_; rintro e wx ⟨rfl, rfl⟩))
                go_roundg (gk - 1)
                case measure => omega
                case rel => exact ⟨j + 1, n + 1, X', by omega, by go_num, by omega, by omega, by omega, hC5⟩
              · have CG2 := CG.out
                have hLL := HHL.out en hh
                rw [hh] at CG2
                have CG3 := Lib.hid CG2
                clear CG CG2 HHL hh
                generalize getX x.q x.ver x.turn x.t X = X' at CG3 hgl hLL
                have dn : ((X'.length : Int) != (X.length : Int)) = false := by rw [hLL]; simp
                have HLL := Lib.hid hLL
                clear hLL
                go_wp2_with (first | (go_at_call 17; refine (len_p hC3).mono ?_; rintro e wx ⟨rfl, rfl⟩) | (refine wpList_load_mid rfl 25 (.tmp 90) rfl wr.heap.size 1 rfl x.key.toList _ (ActAt.key hX3') Try.underlying25 rfl info_key ?_))
                refine CG3.out.mono ?_
                rintro e w5 ⟨rfl, hC5, hT5⟩
                clear CG3
                have t1 : decide (room < (X'.length : Int)) = false := by rw [decide_eq_false_iff_not]; omega
                have t2 : decide ((X'.length : Int) < 0) = false := by rw [decide_eq_false_iff_not]; omega
                go_wp2_with (first | (go_at_call 17; refine (len_p hC5).mono ?_; rintro e wx ⟨rfl, rfl⟩))
                go_roundg (gk - 1)
                case measure => omega
                case rel => exact ⟨j + 1, n + 1, X', by omega, by go_num, by omega, by omega, by omega, hC5⟩
            · have b1 : (x.kind == 1) = false := by simpa using k1
              by_cases k2 : x.kind = 2
              · have b2 : (x.kind == 2) = true := by simpa using k2
                have e1 := hX3'.c1
                have CF := Lib.hid (forget_p (ob := x.ob) hC3 (by omega))
                have hfl := forgetX_len x.ob X
                clear k0 k1 k2
                generalize forgetX x.ob X = X' at CF hfl
                have dn : ((X.length : Int) - (X'.length : Int) != (X.length : Int) - (X'.length : Int)) = false := by simp
                go_wp2_with (first | (go_at_call 17; refine (len_p hC3).mono ?_; rintro e wx ⟨rfl, rfl⟩))
                refine CF.out.mono ?_
                rintro e w5 ⟨rfl, hC5, hT5⟩
                clear CF
                have t1 : decide (room < (X'.length : Int)) = false := by rw [decide_eq_false_iff_not]; omega
                have t2 : decide ((X'.length : Int) < 0) = false := by rw [decide_eq_false_iff_not]; omega
                go_wp2_with (first | (go_at_call 17; refine (len_p hC5).mono ?_; rintro e wx ⟨rfl, rfl⟩))
                go_roundg (gk - 1)
                case measure => omega
                case rel => exact ⟨j + 1, n, X', by omega, by go_num, by omega, by omega, by omega, hC5⟩
              · have b2 : (x.kind == 2) = false := by simpa using k2
                by_cases k3 : x.kind = 3
                · have b3 : (x.kind == 3) = true := by simpa using k3
                  have CC := Lib.hid (clear_p hC3)
                  clear k0 k1 k2 k3
                  go_wp2_with (first | (go_at_call 17; refine (len_p hC3).mono ?_; rintro e wx ⟨rfl, rfl⟩))
                  refine CC.out.mono ?_
                  rintro e w5 ⟨rfl, hC5, hT5⟩
                  clear CC
                  obtain ⟨X', hX'⟩ : ∃ X' : List Ent, X' = [] := ⟨_, rfl⟩
                  rw [← hX'] at hC5
                  have hXz : X'.length ≤ 0 := by rw [hX']; simp
                  have dz : ((X'.length : Int) != 0) = false := by rw [hX']; rfl
                  clear hX'
                  have t1 : decide (room < (X'.length : Int)) = false := by rw [decide_eq_false_iff_not]; omega
                  have t2 : decide ((X'.length : Int) < 0) = false := by rw [decide_eq_false_iff_not]; omega
                  go_wp2_with (first | (go_at_call 17; refine (len_p hC5).mono ?_; rintro e wx ⟨rfl, rfl⟩))
                  go_roundg (gk - 1)
                  case measure => omega
                  case rel => exact ⟨j + 1, n, X', by omega, by go_num, by omega, by omega, by omega, hC5⟩
                · have b3 : (x.kind == 3) = false := by simpa using k3
                  clear k0 k1 k2 k3
                  have hC5 := hC3
                  have t1 : decide (room < (X.length : Int)) = false := by rw [decide_eq_false_iff_not]; omega
                  have t2 : decide ((X.length : Int) < 0) = false := by rw [decide_eq_false_iff_not]; omega
                  go_wp2_with (first | (go_at_call 17; refine (len_p hC5).mono ?_; rintro e wx ⟨rfl, rfl⟩))
                  go_roundg (gk - 1)
                  case measure => omega
                  case rel => exact ⟨j + 1, n, X, by omega, by go_num, by omega, by omega, by omega, hC5⟩
        · go_wp2_with fail
          go_ret
          exact ⟨rfl, hC3.since⟩
      · have d200 : decide ((j : Int) < 200) = false := by rw [decide_eq_false_iff_not]; omega
        have i1 : (j : Int) < (l.length : Int) := by omega
        go_wp2_with fail
        go_ret
        exact ⟨rfl, hC.since⟩
    · have i1 : ¬ (j : Int) < (l.length : Int) := by omega
      go_wp2_with fail
      go_ret
      exact ⟨rfl, hC.since⟩
end Go.Proofs.Ytnicfiochnkjbaa
