/- CacheTrue: the walk. -/
import Derived.Test.YtnicfiochnkjbaaC23
import Derived.Deep.DeepCutAuto
namespace Go.Proofs.Ytnicfiochnkjbaa
open Go.RowKit

set_option maxRecDepth 100000 in
set_option maxHeartbeats 16000000 in
theorem true_walk (room : Int) (A : Option Addr) (cap : Nat) (l : List CAct) (w : World) (hroom : i64 room) (hl : l.length ≤ maxLen) (hr : ReadsT cactV w w.heap.size 8 A l) (hok : ∀ x ∈ l, cactOk w x) :
    Calls Try.prog 6 #[.int .i64 room, .slice A l.length cap] w fun e w' => e = .returned (.bool true) ∧ Kept w w' := by
  have AW := Lib.hid (awake18_any w)
  have HR := Lib.hid hr
  have HOK := Lib.hid hok
  unfold maxLen at hl
  clear hr hok
  go_enter Try.func6, Try.ntmps6
  go_wp2_with fail
  refine AW.out.mono ?_
  rintro e w1 ⟨rfl, hK1⟩
  clear AW
  have N := Lib.hid (new_p hK1 hroom)
  go_wp2_with fail
  refine N.out.mono ?_
  rintro e w2 h
  rcases h with ⟨h, rfl, rfl⟩ | ⟨⟨hr1, hr2⟩, p, mb, rfl, hC2, _, _, _⟩
  · clear N
    go_wp2_with fail
    go_ret
    exact ⟨rfl, hK1⟩
  clear N hK1
  go_wp2_with fail
  go_loopg [6] l.length (fun gk i wr => ∃ (j n : Nat) (X : List Ent), j + gk = l.length ∧ i = .int .i64 j ∧ n ≤ j ∧ j ≤ 200 ∧ (X.length : Int) ≤ room ∧ CacheP w wr p mb room n X ∧ Hist l j X ∧ ∀ y ∈ l.take j, Small y)
  case atStart => exact ⟨0, 0, [], Nat.zero_add _, rfl, Nat.le_refl _, by omega, by simp; omega, hC2, Hist.nil, by simp⟩
  case round =>
    clear hC2
    obtain ⟨j, n, X, hj, rfl, hn, hj2, hXl, hC, hH0, hS0⟩ := hrel
    have HH := Lib.hid hH0
    have HS := Lib.hid hS0
    clear hH0 hS0
    by_cases hgo : j < l.length ∧ j < 200
    · obtain ⟨hjl, hj200⟩ := hgo
      obtain ⟨b, o, rfl, hbl, hcell⟩ := HR.out j hjl
      obtain ⟨x, hxe⟩ : ∃ x, x = l[j] := ⟨_, rfl⟩
      rw [← hxe] at hcell
      have hok : cactOk w x := by rw [hxe]; exact HOK.out _ (List.getElem_mem hjl)
      have HXE := Lib.hid hxe
      have hrng : wr.rangeAt b (o + j * 8) x.cs.toList := act8_cells (fun i hi => (hC.since.cell (p := ⟨b, o + j * 8 + i, none⟩) hbl (fun h => h)).trans (hcell i hi))
      have hBz : Hid (Blk (wr.alloc (.cells zAct 36)) wr.heap.size 36 zAct) := Lib.hid (Blk.new wr _ _)
      have i0 : (0 : Int) ≤ (j : Int) := by omega
      have i1 : (j : Int) < (l.length : Int) := by omega
      have d200 : decide ((j : Int) < 200) = true := by rw [decide_eq_true_eq]; omega
      clear hxe hcell
      go_wp2_with (first
        | (refine wpList_load_mid rfl 36 (.tmp 31) rfl b (o + j * 8) rfl x.cs.toList _ hrng Try.underlying36 rfl info_cact ?_)
        | (refine wpList_store_blk rfl (.tmp 7) (.tmp 32) rfl rfl (cs' := x.cs) rfl hBz.out info_cact rfl (cact_one x) ?_; intro w3 hX3 hT3 hs3; have e3 : w3.cell? ⟨wr.heap.size, 3, none⟩ = some (.slice x.A x.who.length x.c) := ActAt.c3 hX3))
      have hlt := hC.lt
      have hT03 : Turned (fun k => wr.heap.size ≤ k) wr w3 := ((Turned.refl _ wr).alloc _).then_ hT3 (fun i hi h => by omega)
      have hC3 := hC.beside hT03 (by omega) (by omega) (fun k hk => by omega)
      have hX3' : ActAt w3 wr.heap.size x := hX3
      have hgp : wr.heap.size ≠ p := by omega
      have hgm : wr.heap.size ≠ mb := by omega
      have hgf : ¬ CFoot p mb wr.heap.size := fun h => by rcases h with h | h <;> omega
      clear hrng hBz hT3 hs3 hX3 hC hT03 hlt
      refine (large_act hC3.since hok).mono ?_
      rintro e wx ⟨rfl, rfl⟩
      clear e3
      have HLX : Hid (l[j]? = some x) := Lib.hid (by rw [HXE.out]; exact List.getElem?_eq_getElem hjl)
      rcases hla : largeR 600 x.who with _ | _
      · have hsm := small_of hla
        have HS2 : Hid (∀ y ∈ l.take (j + 1), Small y) := by
          intro y hy
          rw [List.take_succ_eq_append_getElem hjl] at hy
          rcases List.mem_append.1 hy with hy | hy
          · exact HS.out y hy
          · rw [List.mem_singleton.1 hy, ← HXE.out]
            exact hsm
        have e0 := hX3'.c0
        clear hla
        by_cases k0 : x.kind = 0
        · have b0 : (x.kind == 0) = true := by simpa using k0
          have b1 : (x.kind != 1) = true := by rw [bne_iff_ne]; omega
          have e6 := hX3'.c6
          have e7 := hX3'.c7
          have CP := Lib.hid (put_act hC3 hr1 (by omega) (by omega) hok hsm)
          have HH2 : Hid (Hist l (j + 1) (putXE room X x.ent)) := Lib.hid (HH.out.put HLX.out k0)
          have hXl' : ((putXE room X x.ent).length : Int) ≤ room := by
            unfold putXE
            split
            · exact putX_len hr1 hXl
            · exact hXl
          clear k0
          generalize putXE room X x.ent = X' at CP HH2 hXl'
          go_wp2_with (first | (refine wpList_load_mid rfl 25 (.tmp 42) rfl wr.heap.size 1 rfl x.key.toList _ (ActAt.key hX3') Try.underlying25 rfl info_key ?_))
          refine CP.out.mono ?_
          rintro e w5 ⟨rfl, hC5, hT5⟩
          have g0 := (hX3'.turned hT5 hgf).c0
          clear CP
          go_wp2_with fail
          go_roundg (gk - 1)
          case measure => omega
          case rel => exact ⟨j + 1, n + 1, X', by omega, by go_num, by omega, by omega, hXl', hC5, HH2.out, HS2.out⟩
        · have b0 : (x.kind == 0) = false := by simpa using k0
          by_cases k2 : x.kind = 2
          · have b2 : (x.kind == 2) = true := by simpa using k2
            have b1 : (x.kind != 1) = true := by rw [bne_iff_ne]; omega
            have e1 := hX3'.c1
            have CF := Lib.hid (forget_p (ob := x.ob) hC3 (by omega))
            have HH2 : Hid (Hist l (j + 1) (forgetX x.ob X)) := Lib.hid (HH.out.forget HLX.out k2)
            have hfl := forgetX_len x.ob X
            clear k0 k2
            generalize forgetX x.ob X = X' at CF HH2 hfl
            go_wp2_with fail
            refine CF.out.mono ?_
            rintro e w5 ⟨rfl, hC5, hT5⟩
            have g0 := (hX3'.turned hT5 hgf).c0
            clear CF
            go_wp2_with fail
            go_roundg (gk - 1)
            case measure => omega
            case rel => exact ⟨j + 1, n, X', by omega, by go_num, by omega, by omega, by omega, hC5, HH2.out, HS2.out⟩
          · have b2 : (x.kind == 2) = false := by simpa using k2
            by_cases k3 : x.kind = 3
            · have b3 : (x.kind == 3) = true := by simpa using k3
              have b1 : (x.kind != 1) = true := by rw [bne_iff_ne]; omega
              have CC := Lib.hid (clear_p hC3)
              clear k0 k2 k3
              go_wp2_with fail
              refine CC.out.mono ?_
              rintro e w5 ⟨rfl, hC5, hT5⟩
              have g0 := (hX3'.turned hT5 hgf).c0
              clear CC
              go_wp2_with fail
              go_roundg (gk - 1)
              case measure => omega
              case rel => exact ⟨j + 1, n, [], by omega, by go_num, by omega, by omega, by simp; omega, hC5, Hist.nil, HS2.out⟩
            · have b3 : (x.kind == 3) = false := by simpa using k3
              by_cases k1 : x.kind = 1
              · have b1 : (x.kind != 1) = false := by simpa using k1
                have e7 := hX3'.c7
                have CG := get_act hC3 (by omega) hok hsm x.t
                have HH2 : Hid (Hist l (j + 1) (getX x.q x.ver x.turn x.t X)) := Lib.hid (HH.out.get HLX.out k1)
                have hgl := getX_len (q := x.q) (ver := x.ver) (turn := x.turn) (t := x.t) hC3.keys
                clear k0 k1 k2 k3
                rcases hh : hitX x.q x.ver x.turn x.t X with _ | en
                · rw [hh] at CG
                  have DG := Lib.hid CG
                  clear CG hh
                  generalize getX x.q x.ver x.turn x.t X = X' at DG HH2 hgl
                  go_wp2_with (first | (refine wpList_load_mid rfl 25 (.tmp 65) rfl wr.heap.size 1 rfl x.key.toList _ (ActAt.key hX3') Try.underlying25 rfl info_key ?_))
                  refine DG.out.mono ?_
                  rintro e w5 ⟨rfl, hC5, hT5⟩
                  clear DG
                  go_wp2_with fail
                  go_roundg (gk - 1)
                  case measure => omega
                  case rel => exact ⟨j + 1, n + 1, X', by omega, by go_num, by omega, by omega, by omega, hC5, HH2.out, HS2.out⟩
                · obtain ⟨i0, hsrc, hq1, hv1, ht1, hl1⟩ := HH.out.hit hh
                  rw [hh] at CG
                  simp only [toldR, Option.isSome] at CG
                  have DG := Lib.hid CG
                  have HSRC := Lib.hid hsrc
                  have HQ1 := Lib.hid hq1
                  have HV1 := Lib.hid hv1
                  have HT1 := Lib.hid ht1
                  clear CG hh hsrc hq1 hv1 ht1
                  generalize getX x.q x.ver x.turn x.t X = X' at DG HH2 hgl
                  go_wp2_with (first | (refine wpList_load_mid rfl 25 (.tmp 65) rfl wr.heap.size 1 rfl x.key.toList _ (ActAt.key hX3') Try.underlying25 rfl info_key ?_))
                  refine DG.out.mono ?_
                  rintro e w5 ⟨rfl, hC5, hT5⟩
                  have hX5 := hX3'.turned hT5 hgf
                  clear DG hX3' hC3 e0 e7 hT5
                  obtain ⟨gkO, hgkO⟩ : ∃ g : Nat, g = gk := ⟨_, rfl⟩
                  have hgx5 : wr.heap.size < w5.heap.size := hX5.lt
                  generalize wr.heap.size = gx at hX5 hgx5 hgp hgm hgf ⊢
                  go_wp2_with fail
                  go_loopg [10, 11] j (fun g2 sf sj wr2 => ∃ (f : Bool) (r : Nat) (z : Int), r = g2 ∧ z = (r : Int) - 1 ∧ sf = .bool f ∧ sj = .int .i64 z ∧ r ≤ j ∧ (f = false → i0 < r) ∧ CacheP w wr2 p mb room (n + 1) X' ∧ ActAt wr2 gx x)
                  case atStart => exact ⟨false, j, _, rfl, rfl, rfl, rfl, Nat.le_refl _, fun _ => HSRC.out.lt, hC5, hX5⟩
                  case round =>
                    clear hC5 hX5 hgx5
                    obtain ⟨f, r, z, hrg, hz, rfl, rfl, hrj, hfr, hC, hX⟩ := hrel
                    rcases f with _ | _
                    · have hr0 : i0 < r := hfr rfl
                      obtain ⟨r', rfl⟩ : ∃ r', r = r' + 1 := ⟨r - 1, by omega⟩
                      obtain rfl : z = (r' : Int) := by omega
                      have HRG := Lib.hid hrg
                      clear hrg hz hfr
                      have hrl : r' < l.length := by omega
                      obtain ⟨b2', o2', he, hbl2, hcell2⟩ := HR.out r' hrl
                      cases he
                      obtain ⟨y, hye⟩ : ∃ y, y = l[r'] := ⟨_, rfl⟩
                      rw [← hye] at hcell2
                      have hoky : cactOk w y := by rw [hye]; exact HOK.out _ (List.getElem_mem hrl)
                      have hsy : Small y := by
                        refine HS.out y ?_
                        rw [hye]
                        exact List.mem_take_iff_getElem.2 ⟨r', by omega, rfl⟩
                      have hback := HSRC.out.back (r := r') (y := y) hr0 (by omega) (by rw [hye]; exact List.getElem?_eq_getElem hrl)
                      obtain ⟨hy3, hy2, hyes, hno⟩ := hback
                      rw [HQ1.out] at hy2 hyes hno
                      have hy2' : y.kind = 2 → y.ob ≠ x.ob := hy2
                      have hrng : wr.rangeAt b (o + r' * 8) y.cs.toList := act8_cells (fun i hi => (hC.since.cell (p := ⟨b, o + r' * 8 + i, none⟩) hbl2 (fun h => h)).trans (hcell2 i hi))
                      have hBz : Hid (Blk (wr.alloc (.cells zAct 36)) wr.heap.size 36 zAct) := Lib.hid (Blk.new wr _ _)
                      have i0' : (0 : Int) ≤ (r' : Int) := by omega
                      have i1' : (r' : Int) < (l.length : Int) := by omega
                      have c3 : (y.kind == 3) = false := by simpa using hy3
                      have HYES := Lib.hid hyes
                      have HNO := Lib.hid hno
                      have HL1 := Lib.hid hl1
                      have hxlt := hX.lt
                      have hCl := hC.lt
                      have HASK : Hid (∀ W, Kept w W → Calls Try.prog 26 #[.agg x.key, .agg y.key] W fun e w' => e = .returned (.bool (quEq x.q y.q)) ∧ Kept W w') := fun W hW => asks_any _ _ _ _ _ _ _ _ _ _ _ _ _ _ W (by have := hsm.len; omega) (by have := hsy.len; omega) (hok.reads.kept hW) (hoky.reads.kept hW)
                      clear hye hcell2 hyes hno hy2 hy3 hl1
                      by_cases m2 : y.kind = 2
                      · have c2 : (y.kind == 2) = true := by simpa using m2
                        have co : (y.ob == x.ob) = false := by simpa using hy2' m2
                        have m0 : y.kind ≠ 0 := by omega
                        have c0 : (y.kind == 0) = false := by simpa using m0
                        have HNX : Hid (i0 < r') := HNO.out (fun h => m0 h.1)
                        clear HYES HNO hy2' m0 m2
                        go_upto_region 29 with (first
                          | (refine wpList_load_mid rfl 36 (.tmp 88) rfl b (o + r' * 8) rfl y.cs.toList _ hrng Try.underlying36 rfl info_cact ?_)
                          | (refine wpList_store_blk rfl (.tmp 12) (.tmp 89) rfl rfl (cs' := y.cs) rfl hBz.out info_cact rfl (cact_one y) ?_; intro w5 hY5 hT5 hs5; clear hs5))
                        have hT35 : Turned (fun k => wr.heap.size ≤ k) wr w5 := ((Turned.refl _ wr).alloc _).then_ hT5 (fun i hi h => by omega)
                        have hX5 := hX.turned hT35 (by omega)
                        have hC5 := hC.beside hT35 (by omega) (by omega) (fun k hk => by omega)
                        have hY5' : ActAt w5 wr.heap.size y := hY5
                        have HX5 := Lib.hid hX5
                        have HY5 := Lib.hid hY5'
                        have f0 := hY5'.c0
                        have f1 := hY5'.c1
                        have x1 := hX5.c1
                        have HHELD : Hid (∀ W, Kept w5 W → _) := Lib.hid (fun W h => acts_held hX5 hY5' (W := W) h)
                        clear hrng hBz hT5 hY5 hY5' hX5 hT35 hX hC
                        generalize wr.heap.size = gy at HY5 HHELD hxlt hCl f0 f1 ⊢
                        have HJ := Lib.hid hj
                        have HGKO := Lib.hid hgkO
                        clear hj hgkO
                        go_wp2_with fail
                        have hj := HJ.out
                        have hgkO := HGKO.out
                        clear f0 f1 x1
                        refine wp_region_held_drew (S := fun W => Kept w5 W ∧ W.cell? ⟨gx, 1, none⟩ = some (.int .i64 x.ob) ∧ W.cell? ⟨gx, 2, none⟩ = some (.int .i64 x.op) ∧ W.cell? ⟨gx, 3, none⟩ = some (.slice x.A x.who.length x.c) ∧ W.cell? ⟨gx, 4, none⟩ = some (.int .i64 x.ver) ∧ W.cell? ⟨gx, 5, none⟩ = some (.int .i64 x.turn) ∧ W.cell? ⟨gy, 0, none⟩ = some (.int .i64 y.kind) ∧ W.cell? ⟨gy, 1, none⟩ = some (.int .i64 y.ob) ∧ W.cell? ⟨gy, 2, none⟩ = some (.int .i64 y.op) ∧ W.cell? ⟨gy, 3, none⟩ = some (.slice y.A y.who.length y.c) ∧ W.cell? ⟨gy, 4, none⟩ = some (.int .i64 y.ver) ∧ W.cell? ⟨gy, 5, none⟩ = some (.int .i64 y.turn) ∧ W.cell? ⟨gy, 6, none⟩ = some (.int .i64 y.a)) (by kernel_rfl) (HHELD.out _ (Turned.refl _ w5).drew) (fun hHeld => ?_)
                        refine held_take 0 107 (v := ?_) ⟨_, rfl, rfl, by rfl, ?_⟩ (by kernel_rfl) (by kernel_rfl) (by kernel_rfl) (fun _ _ _ h => h) hHeld ?_
                        rotate_left
                        · (intro w hSw; (try dsimp only at hSw); go_simp; try with_reducible rfl)
                        simp only [Act.put, List.setIfInBounds_toArray, List.set_cons_zero, List.set_cons_succ]
                        refine held_take 1 108 (v := ?_) ⟨_, rfl, rfl, by rfl, ?_⟩ (by kernel_rfl) (by kernel_rfl) (by kernel_rfl) (fun _ _ _ h => h) hHeld ?_
                        rotate_left
                        · (intro w hSw; (try dsimp only at hSw); go_simp; try with_reducible rfl)
                        simp only [Act.put, List.setIfInBounds_toArray, List.set_cons_zero, List.set_cons_succ]
                        refine held_take 2 109 (v := ?_) ⟨_, rfl, rfl, by rfl, ?_⟩ (by kernel_rfl) (by kernel_rfl) (by kernel_rfl) (fun _ _ _ h => h) hHeld ?_
                        rotate_left
                        · (intro w hSw; (try dsimp only at hSw); go_simp; try with_reducible rfl)
                        simp only [Act.put, List.setIfInBounds_toArray, List.set_cons_zero, List.set_cons_succ]
                        refine held_take 3 110 (v := ?_) ⟨_, rfl, rfl, by rfl, ?_⟩ (by kernel_rfl) (by kernel_rfl) (by kernel_rfl) (fun _ _ _ h => h) hHeld ?_
                        rotate_left
                        · (intro w hSw; (try dsimp only at hSw); go_simp; try with_reducible rfl)
                        simp only [Act.put, List.setIfInBounds_toArray, List.set_cons_zero, List.set_cons_succ]
                        refine held_skip 4 111 ⟨_, rfl, rfl, by rfl⟩ (by kernel_rfl) (by kernel_rfl) (by kernel_rfl) (fun _ _ _ h => h) hHeld ?_
                        simp only [Act.put, List.setIfInBounds_toArray, List.set_cons_zero, List.set_cons_succ]
                        refine held_skip 5 112 ⟨_, rfl, rfl, by rfl⟩ (by kernel_rfl) (by kernel_rfl) (by kernel_rfl) (fun _ _ _ h => h) hHeld ?_
                        simp only [Act.put, List.setIfInBounds_toArray, List.set_cons_zero, List.set_cons_succ]
                        refine held_skip 6 113 ⟨_, rfl, rfl, by rfl⟩ (by kernel_rfl) (by kernel_rfl) (by kernel_rfl) (fun _ _ _ h => h) hHeld ?_
                        simp only [Act.put, List.setIfInBounds_toArray, List.set_cons_zero, List.set_cons_succ]
                        refine held_skip 7 114 ⟨_, rfl, rfl, by rfl⟩ (by kernel_rfl) (by kernel_rfl) (by kernel_rfl) (fun _ _ _ h => h) hHeld ?_
                        simp only [Act.put, List.setIfInBounds_toArray, List.set_cons_zero, List.set_cons_succ]
                        refine held_skip 8 115 ⟨_, rfl, rfl, by rfl⟩ (by kernel_rfl) (by kernel_rfl) (by kernel_rfl) (fun _ _ _ h => h) hHeld ?_
                        simp only [Act.put, List.setIfInBounds_toArray, List.set_cons_zero, List.set_cons_succ]
                        refine held_skip 9 116 ⟨_, rfl, rfl, by rfl⟩ (by kernel_rfl) (by kernel_rfl) (by kernel_rfl) (fun _ _ _ h => h) hHeld ?_
                        simp only [Act.put, List.setIfInBounds_toArray, List.set_cons_zero, List.set_cons_succ]
                        refine held_skip 10 117 ⟨_, rfl, rfl, by rfl⟩ (by kernel_rfl) (by kernel_rfl) (by kernel_rfl) (fun _ _ _ h => h) hHeld ?_
                        simp only [Act.put, List.setIfInBounds_toArray, List.set_cons_zero, List.set_cons_succ]
                        refine held_take 11 118 (v := ?_) ⟨_, rfl, rfl, by rfl, ?_⟩ (by kernel_rfl) (by kernel_rfl) (by kernel_rfl) (fun _ _ _ h => h) hHeld ?_
                        rotate_left
                        · (intro w hSw; (try dsimp only at hSw); go_simp; try with_reducible rfl)
                        simp only [Act.put, List.setIfInBounds_toArray, List.set_cons_zero, List.set_cons_succ]
                        refine held_take 12 119 (v := ?_) ⟨_, rfl, rfl, by rfl, ?_⟩ (by kernel_rfl) (by kernel_rfl) (by kernel_rfl) (fun _ _ _ h => h) hHeld ?_
                        rotate_left
                        · (intro w hSw; (try dsimp only at hSw); go_simp; try with_reducible rfl)
                        simp only [Act.put, List.setIfInBounds_toArray, List.set_cons_zero, List.set_cons_succ]
                        refine held_skip 13 120 ⟨_, rfl, rfl, by rfl⟩ (by kernel_rfl) (by kernel_rfl) (by kernel_rfl) (fun _ _ _ h => h) hHeld ?_
                        simp only [Act.put, List.setIfInBounds_toArray, List.set_cons_zero, List.set_cons_succ]
                        refine held_skip 14 121 ⟨_, rfl, rfl, by rfl⟩ (by kernel_rfl) (by kernel_rfl) (by kernel_rfl) (fun _ _ _ h => h) hHeld ?_
                        simp only [Act.put, List.setIfInBounds_toArray, List.set_cons_zero, List.set_cons_succ]
                        refine held_skip 15 122 ⟨_, rfl, rfl, by rfl⟩ (by kernel_rfl) (by kernel_rfl) (by kernel_rfl) (fun _ _ _ h => h) hHeld ?_
                        simp only [Act.put, List.setIfInBounds_toArray, List.set_cons_zero, List.set_cons_succ]
                        refine held_take 16 123 (v := ?_) ⟨_, rfl, rfl, by rfl, ?_⟩ (by kernel_rfl) (by kernel_rfl) (by kernel_rfl) (fun _ _ _ h => h) hHeld ?_
                        rotate_left
                        · (intro w hSw; (try dsimp only at hSw); go_simp; try with_reducible rfl)
                        simp only [Act.put, List.setIfInBounds_toArray, List.set_cons_zero, List.set_cons_succ]
                        refine held_take 17 124 (v := ?_) ⟨_, rfl, rfl, by rfl, ?_⟩ (by kernel_rfl) (by kernel_rfl) (by kernel_rfl) (fun _ _ _ h => h) hHeld ?_
                        rotate_left
                        · (intro w hSw; (try dsimp only at hSw); go_simp; try with_reducible rfl)
                        simp only [Act.put, List.setIfInBounds_toArray, List.set_cons_zero, List.set_cons_succ]
                        refine held_skip 18 125 ⟨_, rfl, rfl, by rfl⟩ (by kernel_rfl) (by kernel_rfl) (by kernel_rfl) (fun _ _ _ h => h) hHeld ?_
                        simp only [Act.put, List.setIfInBounds_toArray, List.set_cons_zero, List.set_cons_succ]
                        refine held_skip 19 126 ⟨_, rfl, rfl, by rfl⟩ (by kernel_rfl) (by kernel_rfl) (by kernel_rfl) (fun _ _ _ h => h) hHeld ?_
                        simp only [Act.put, List.setIfInBounds_toArray, List.set_cons_zero, List.set_cons_succ]
                        refine held_skip 20 127 ⟨_, rfl, rfl, by rfl⟩ (by kernel_rfl) (by kernel_rfl) (by kernel_rfl) (fun _ _ _ h => h) hHeld ?_
                        simp only [Act.put, List.setIfInBounds_toArray, List.set_cons_zero, List.set_cons_succ]
                        refine held_take 21 128 (v := ?_) ⟨_, rfl, rfl, by rfl, ?_⟩ (by kernel_rfl) (by kernel_rfl) (by kernel_rfl) (fun _ _ _ h => h) hHeld ?_
                        rotate_left
                        · (intro w hSw; (try dsimp only at hSw); go_simp; try with_reducible rfl)
                        simp only [Act.put, List.setIfInBounds_toArray, List.set_cons_zero, List.set_cons_succ]
                        refine wpAnyH_done (by kernel_rfl) ?_ _
                        have hkw8 : Kept w5 w5.drew := (Turned.refl _ w5).drew
                        have hC8 := hC5.kept hkw8
                        have hX8 := HX5.out.turned hkw8 (fun h => h)
                        go_wp2_with fail
                        go_roundg (gk - 1)
                        case measure => have := HRG.out; omega
                        case rel => exact ⟨false, r', _, by have := HRG.out; omega, rfl, rfl, rfl, by omega, fun _ => HNX.out, hC8, hX8⟩
                      · have c2 : (y.kind == 2) = false := by simpa using m2
                        by_cases m0 : y.kind = 0
                        · have c0 : (y.kind == 0) = true := by simpa using m0
                          rcases hqq : quEq x.q y.q with _ | _
                          · have HNX : Hid (i0 < r') := HNO.out (fun h => by rw [quEq_iff.2 h.2.1.symm] at hqq; cases hqq)
                            rw [hqq] at HASK
                            clear hqq HYES HNO hy2'
                            clear m0 m2
                            go_upto_region 29 with (first
                              | (refine wpList_load_mid rfl 36 (.tmp 88) rfl b (o + r' * 8) rfl y.cs.toList _ hrng Try.underlying36 rfl info_cact ?_)
                              | (refine wpList_store_blk rfl (.tmp 12) (.tmp 89) rfl rfl (cs' := y.cs) rfl hBz.out info_cact rfl (cact_one y) ?_; intro w5 hY5 hT5 hs5; clear hs5))
                            have hT35 : Turned (fun k => wr.heap.size ≤ k) wr w5 := ((Turned.refl _ wr).alloc _).then_ hT5 (fun i hi h => by omega)
                            have hX5 := hX.turned hT35 (by omega)
                            have hC5 := hC.beside hT35 (by omega) (by omega) (fun k hk => by omega)
                            have hY5' : ActAt w5 wr.heap.size y := hY5
                            have HX5 := Lib.hid hX5
                            have HY5 := Lib.hid hY5'
                            have f0 := hY5'.c0
                            have f1 := hY5'.c1
                            have x1 := hX5.c1
                            have HHELD : Hid (∀ W, Kept w5 W → _) := Lib.hid (fun W h => acts_held hX5 hY5' (W := W) h)
                            clear hrng hBz hT5 hY5 hY5' hX5 hT35 hX hC
                            generalize wr.heap.size = gy at HY5 HHELD hxlt hCl f0 f1 ⊢
                            have HJ := Lib.hid hj
                            have HGKO := Lib.hid hgkO
                            clear hj hgkO
                            go_wp2_with fail
                            have hj := HJ.out
                            have hgkO := HGKO.out
                            clear f0 f1 x1
                            refine wp_region_held_drew (S := fun W => Kept w5 W ∧ W.cell? ⟨gx, 1, none⟩ = some (.int .i64 x.ob) ∧ W.cell? ⟨gx, 2, none⟩ = some (.int .i64 x.op) ∧ W.cell? ⟨gx, 3, none⟩ = some (.slice x.A x.who.length x.c) ∧ W.cell? ⟨gx, 4, none⟩ = some (.int .i64 x.ver) ∧ W.cell? ⟨gx, 5, none⟩ = some (.int .i64 x.turn) ∧ W.cell? ⟨gy, 0, none⟩ = some (.int .i64 y.kind) ∧ W.cell? ⟨gy, 1, none⟩ = some (.int .i64 y.ob) ∧ W.cell? ⟨gy, 2, none⟩ = some (.int .i64 y.op) ∧ W.cell? ⟨gy, 3, none⟩ = some (.slice y.A y.who.length y.c) ∧ W.cell? ⟨gy, 4, none⟩ = some (.int .i64 y.ver) ∧ W.cell? ⟨gy, 5, none⟩ = some (.int .i64 y.turn) ∧ W.cell? ⟨gy, 6, none⟩ = some (.int .i64 y.a)) (by kernel_rfl) (HHELD.out _ (Turned.refl _ w5).drew) (fun hHeld => ?_)
                            refine held_take 0 107 (v := ?_) ⟨_, rfl, rfl, by rfl, ?_⟩ (by kernel_rfl) (by kernel_rfl) (by kernel_rfl) (fun _ _ _ h => h) hHeld ?_
                            rotate_left
                            · (intro w hSw; (try dsimp only at hSw); go_simp; try with_reducible rfl)
                            simp only [Act.put, List.setIfInBounds_toArray, List.set_cons_zero, List.set_cons_succ]
                            refine held_take 1 108 (v := ?_) ⟨_, rfl, rfl, by rfl, ?_⟩ (by kernel_rfl) (by kernel_rfl) (by kernel_rfl) (fun _ _ _ h => h) hHeld ?_
                            rotate_left
                            · (intro w hSw; (try dsimp only at hSw); go_simp; try with_reducible rfl)
                            simp only [Act.put, List.setIfInBounds_toArray, List.set_cons_zero, List.set_cons_succ]
                            refine held_take 2 109 (v := ?_) ⟨_, rfl, rfl, by rfl, ?_⟩ (by kernel_rfl) (by kernel_rfl) (by kernel_rfl) (fun _ _ _ h => h) hHeld ?_
                            rotate_left
                            · (intro w hSw; (try dsimp only at hSw); go_simp; try with_reducible rfl)
                            simp only [Act.put, List.setIfInBounds_toArray, List.set_cons_zero, List.set_cons_succ]
                            refine held_take 3 110 (v := ?_) ⟨_, rfl, rfl, by rfl, ?_⟩ (by kernel_rfl) (by kernel_rfl) (by kernel_rfl) (fun _ _ _ h => h) hHeld ?_
                            rotate_left
                            · (intro w hSw; (try dsimp only at hSw); go_simp; try with_reducible rfl)
                            simp only [Act.put, List.setIfInBounds_toArray, List.set_cons_zero, List.set_cons_succ]
                            refine held_take 4 111 (v := ?_) ⟨_, rfl, rfl, by rfl, ?_⟩ (by kernel_rfl) (by kernel_rfl) (by kernel_rfl) (fun _ _ _ h => h) hHeld ?_
                            rotate_left
                            · (intro w hSw; (try dsimp only at hSw); go_simp; try with_reducible rfl)
                            simp only [Act.put, List.setIfInBounds_toArray, List.set_cons_zero, List.set_cons_succ]
                            refine held_take 5 112 (v := ?_) ⟨_, rfl, rfl, by rfl, ?_⟩ (by kernel_rfl) (by kernel_rfl) (by kernel_rfl) (fun _ _ _ h => h) hHeld ?_
                            rotate_left
                            · (intro w hSw; (try dsimp only at hSw); go_simp; try with_reducible rfl)
                            simp only [Act.put, List.setIfInBounds_toArray, List.set_cons_zero, List.set_cons_succ]
                            refine held_take 7 114 (v := ?_) ⟨_, rfl, rfl, by rfl, ?_⟩ (by kernel_rfl) (by kernel_rfl) (by kernel_rfl) (fun _ _ _ h => h) hHeld ?_
                            rotate_left
                            · (intro w hSw; (try dsimp only at hSw); go_simp; try with_reducible rfl)
                            simp only [Act.put, List.setIfInBounds_toArray, List.set_cons_zero, List.set_cons_succ]
                            refine held_take 8 115 (v := ?_) ⟨_, rfl, rfl, by rfl, ?_⟩ (by kernel_rfl) (by kernel_rfl) (by kernel_rfl) (fun _ _ _ h => h) hHeld ?_
                            rotate_left
                            · (intro w hSw; (try dsimp only at hSw); go_simp; try with_reducible rfl)
                            simp only [Act.put, List.setIfInBounds_toArray, List.set_cons_zero, List.set_cons_succ]
                            refine wpAnyH_ready (rs := [6]) (by kernel_rfl) (by simp) ?_
                            refine AllReadyH.cons (o := _) rfl (fun K hK => ?_) AllReadyH.nil
                            go_simp
                            go_at_call 22
                            refine (own_any _ _ _ _ _ _ _ _).mono ?_
                            rintro e w6 ⟨rfl, hqw6⟩
                            go_wp2_with fail
                            have hkw6 : Kept w5 w6 := ((Turned.refl _ w5).drew).to hqw6
                            refine hK.out _ _ (HHELD.out _ hkw6) (fun hHeld => ?_)
                            clear hK K
                            refine wpAnyH_ready (rs := [9]) (by kernel_rfl) (by simp) ?_
                            refine AllReadyH.cons (o := _) rfl (fun K hK => ?_) AllReadyH.nil
                            go_simp
                            go_at_call 22
                            refine (own_any _ _ _ _ _ _ _ _).mono ?_
                            rintro e w7 ⟨rfl, hqw7⟩
                            go_wp2_with fail
                            have hkw7 : Kept w5 w7 := hkw6.to hqw7
                            refine hK.out _ _ (HHELD.out _ hkw7) (fun hHeld => ?_)
                            clear hK K
                            refine wpAnyH_ready (rs := [10]) (by kernel_rfl) (by simp) ?_
                            refine AllReadyH.cons (o := _) rfl (fun K hK => ?_) AllReadyH.nil
                            go_simp
                            go_at_call 26
                            refine (HASK.out _ (hC5.since.to hkw7)).mono ?_
                            rintro e w8 ⟨rfl, hqw8⟩
                            go_wp2_with fail
                            have hkw8 : Kept w5 w8 := hkw7.to hqw8
                            refine hK.out _ _ (HHELD.out _ hkw8) (fun hHeld => ?_)
                            clear hK K
                            refine held_take 11 118 (v := ?_) ⟨_, rfl, rfl, by rfl, ?_⟩ (by kernel_rfl) (by kernel_rfl) (by kernel_rfl) (fun _ _ _ h => h) hHeld ?_
                            rotate_left
                            · (intro w hSw; (try dsimp only at hSw); go_simp; try with_reducible rfl)
                            simp only [Act.put, List.setIfInBounds_toArray, List.set_cons_zero, List.set_cons_succ]
                            refine held_take 12 119 (v := ?_) ⟨_, rfl, rfl, by rfl, ?_⟩ (by kernel_rfl) (by kernel_rfl) (by kernel_rfl) (fun _ _ _ h => h) hHeld ?_
                            rotate_left
                            · (intro w hSw; (try dsimp only at hSw); go_simp; try with_reducible rfl)
                            simp only [Act.put, List.setIfInBounds_toArray, List.set_cons_zero, List.set_cons_succ]
                            refine held_skip 13 120 ⟨_, rfl, rfl, by rfl⟩ (by kernel_rfl) (by kernel_rfl) (by kernel_rfl) (fun _ _ _ h => h) hHeld ?_
                            simp only [Act.put, List.setIfInBounds_toArray, List.set_cons_zero, List.set_cons_succ]
                            refine held_skip 14 121 ⟨_, rfl, rfl, by rfl⟩ (by kernel_rfl) (by kernel_rfl) (by kernel_rfl) (fun _ _ _ h => h) hHeld ?_
                            simp only [Act.put, List.setIfInBounds_toArray, List.set_cons_zero, List.set_cons_succ]
                            refine held_skip 15 122 ⟨_, rfl, rfl, by rfl⟩ (by kernel_rfl) (by kernel_rfl) (by kernel_rfl) (fun _ _ _ h => h) hHeld ?_
                            simp only [Act.put, List.setIfInBounds_toArray, List.set_cons_zero, List.set_cons_succ]
                            refine held_take 16 123 (v := ?_) ⟨_, rfl, rfl, by rfl, ?_⟩ (by kernel_rfl) (by kernel_rfl) (by kernel_rfl) (fun _ _ _ h => h) hHeld ?_
                            rotate_left
                            · (intro w hSw; (try dsimp only at hSw); go_simp; try with_reducible rfl)
                            simp only [Act.put, List.setIfInBounds_toArray, List.set_cons_zero, List.set_cons_succ]
                            refine held_take 17 124 (v := ?_) ⟨_, rfl, rfl, by rfl, ?_⟩ (by kernel_rfl) (by kernel_rfl) (by kernel_rfl) (fun _ _ _ h => h) hHeld ?_
                            rotate_left
                            · (intro w hSw; (try dsimp only at hSw); go_simp; try with_reducible rfl)
                            simp only [Act.put, List.setIfInBounds_toArray, List.set_cons_zero, List.set_cons_succ]
                            refine held_skip 18 125 ⟨_, rfl, rfl, by rfl⟩ (by kernel_rfl) (by kernel_rfl) (by kernel_rfl) (fun _ _ _ h => h) hHeld ?_
                            simp only [Act.put, List.setIfInBounds_toArray, List.set_cons_zero, List.set_cons_succ]
                            refine held_skip 19 126 ⟨_, rfl, rfl, by rfl⟩ (by kernel_rfl) (by kernel_rfl) (by kernel_rfl) (fun _ _ _ h => h) hHeld ?_
                            simp only [Act.put, List.setIfInBounds_toArray, List.set_cons_zero, List.set_cons_succ]
                            refine held_skip 20 127 ⟨_, rfl, rfl, by rfl⟩ (by kernel_rfl) (by kernel_rfl) (by kernel_rfl) (fun _ _ _ h => h) hHeld ?_
                            simp only [Act.put, List.setIfInBounds_toArray, List.set_cons_zero, List.set_cons_succ]
                            refine held_take 21 128 (v := ?_) ⟨_, rfl, rfl, by rfl, ?_⟩ (by kernel_rfl) (by kernel_rfl) (by kernel_rfl) (fun _ _ _ h => h) hHeld ?_
                            rotate_left
                            · (intro w hSw; (try dsimp only at hSw); go_simp; try with_reducible rfl)
                            simp only [Act.put, List.setIfInBounds_toArray, List.set_cons_zero, List.set_cons_succ]
                            refine wpAnyH_done (by kernel_rfl) ?_ _
                            have hC8 := hC5.kept hkw8
                            have hX8 := HX5.out.turned hkw8 (fun h => h)
                            go_wp2_with fail
                            go_roundg (gk - 1)
                            case measure => have := HRG.out; omega
                            case rel => exact ⟨false, r', _, by have := HRG.out; omega, rfl, rfl, rfl, by omega, fun _ => HNX.out, hC8, hX8⟩
                          · have hqe := quEq_iff.1 hqq
                            rw [hqq] at HASK
                            clear hqq hy2'
                            by_cases ha0 : 0 ≤ y.a
                            · by_cases ha2 : y.a ≤ 2
                              · have hent := HYES.out ⟨m0, hqe.symm, ha0, ha2⟩
                                have HE1 : Hid (y.a = en.told) := by show y.a = en.told; rw [← hent]; rfl
                                have HE2 : Hid (y.ver = x.ver) := by show y.ver = x.ver; rw [← HV1.out, ← hent]; rfl
                                have HE3 : Hid (y.turn = x.turn) := by show y.turn = x.turn; rw [← HT1.out, ← hent]; rfl
                                have HE4 : x.t < y.t := by have h := HL1.out; rw [← hent] at h; exact h
                                clear hent HYES HNO hqe
                                have da0 : decide (0 ≤ y.a) = true := by simpa using ha0
                                have da2 : decide (y.a ≤ 2) = true := by simpa using ha2
                                clear m0 m2
                                go_upto_region 29 with (first
                                  | (refine wpList_load_mid rfl 36 (.tmp 88) rfl b (o + r' * 8) rfl y.cs.toList _ hrng Try.underlying36 rfl info_cact ?_)
                                  | (refine wpList_store_blk rfl (.tmp 12) (.tmp 89) rfl rfl (cs' := y.cs) rfl hBz.out info_cact rfl (cact_one y) ?_; intro w5 hY5 hT5 hs5; clear hs5))
                                have hT35 : Turned (fun k => wr.heap.size ≤ k) wr w5 := ((Turned.refl _ wr).alloc _).then_ hT5 (fun i hi h => by omega)
                                have hX5 := hX.turned hT35 (by omega)
                                have hC5 := hC.beside hT35 (by omega) (by omega) (fun k hk => by omega)
                                have hY5' : ActAt w5 wr.heap.size y := hY5
                                have HX5 := Lib.hid hX5
                                have HY5 := Lib.hid hY5'
                                have f0 := hY5'.c0
                                have f1 := hY5'.c1
                                have x1 := hX5.c1
                                have HHELD : Hid (∀ W, Kept w5 W → _) := Lib.hid (fun W h => acts_held hX5 hY5' (W := W) h)
                                clear hrng hBz hT5 hY5 hY5' hX5 hT35 hX hC
                                generalize wr.heap.size = gy at HY5 HHELD hxlt hCl f0 f1 ⊢
                                have HJ := Lib.hid hj
                                have HGKO := Lib.hid hgkO
                                clear hj hgkO
                                go_wp2_with fail
                                have hj := HJ.out
                                have hgkO := HGKO.out
                                clear f0 f1 x1
                                refine wp_region_held_drew (S := fun W => Kept w5 W ∧ W.cell? ⟨gx, 1, none⟩ = some (.int .i64 x.ob) ∧ W.cell? ⟨gx, 2, none⟩ = some (.int .i64 x.op) ∧ W.cell? ⟨gx, 3, none⟩ = some (.slice x.A x.who.length x.c) ∧ W.cell? ⟨gx, 4, none⟩ = some (.int .i64 x.ver) ∧ W.cell? ⟨gx, 5, none⟩ = some (.int .i64 x.turn) ∧ W.cell? ⟨gy, 0, none⟩ = some (.int .i64 y.kind) ∧ W.cell? ⟨gy, 1, none⟩ = some (.int .i64 y.ob) ∧ W.cell? ⟨gy, 2, none⟩ = some (.int .i64 y.op) ∧ W.cell? ⟨gy, 3, none⟩ = some (.slice y.A y.who.length y.c) ∧ W.cell? ⟨gy, 4, none⟩ = some (.int .i64 y.ver) ∧ W.cell? ⟨gy, 5, none⟩ = some (.int .i64 y.turn) ∧ W.cell? ⟨gy, 6, none⟩ = some (.int .i64 y.a)) (by kernel_rfl) (HHELD.out _ (Turned.refl _ w5).drew) (fun hHeld => ?_)
                                refine held_take 0 107 (v := ?_) ⟨_, rfl, rfl, by rfl, ?_⟩ (by kernel_rfl) (by kernel_rfl) (by kernel_rfl) (fun _ _ _ h => h) hHeld ?_
                                rotate_left
                                · (intro w hSw; (try dsimp only at hSw); go_simp; try with_reducible rfl)
                                simp only [Act.put, List.setIfInBounds_toArray, List.set_cons_zero, List.set_cons_succ]
                                refine held_take 1 108 (v := ?_) ⟨_, rfl, rfl, by rfl, ?_⟩ (by kernel_rfl) (by kernel_rfl) (by kernel_rfl) (fun _ _ _ h => h) hHeld ?_
                                rotate_left
                                · (intro w hSw; (try dsimp only at hSw); go_simp; try with_reducible rfl)
                                simp only [Act.put, List.setIfInBounds_toArray, List.set_cons_zero, List.set_cons_succ]
                                refine held_take 2 109 (v := ?_) ⟨_, rfl, rfl, by rfl, ?_⟩ (by kernel_rfl) (by kernel_rfl) (by kernel_rfl) (fun _ _ _ h => h) hHeld ?_
                                rotate_left
                                · (intro w hSw; (try dsimp only at hSw); go_simp; try with_reducible rfl)
                                simp only [Act.put, List.setIfInBounds_toArray, List.set_cons_zero, List.set_cons_succ]
                                refine held_take 3 110 (v := ?_) ⟨_, rfl, rfl, by rfl, ?_⟩ (by kernel_rfl) (by kernel_rfl) (by kernel_rfl) (fun _ _ _ h => h) hHeld ?_
                                rotate_left
                                · (intro w hSw; (try dsimp only at hSw); go_simp; try with_reducible rfl)
                                simp only [Act.put, List.setIfInBounds_toArray, List.set_cons_zero, List.set_cons_succ]
                                refine held_take 4 111 (v := ?_) ⟨_, rfl, rfl, by rfl, ?_⟩ (by kernel_rfl) (by kernel_rfl) (by kernel_rfl) (fun _ _ _ h => h) hHeld ?_
                                rotate_left
                                · (intro w hSw; (try dsimp only at hSw); go_simp; try with_reducible rfl)
                                simp only [Act.put, List.setIfInBounds_toArray, List.set_cons_zero, List.set_cons_succ]
                                refine held_take 5 112 (v := ?_) ⟨_, rfl, rfl, by rfl, ?_⟩ (by kernel_rfl) (by kernel_rfl) (by kernel_rfl) (fun _ _ _ h => h) hHeld ?_
                                rotate_left
                                · (intro w hSw; (try dsimp only at hSw); go_simp; try with_reducible rfl)
                                simp only [Act.put, List.setIfInBounds_toArray, List.set_cons_zero, List.set_cons_succ]
                                refine held_take 7 114 (v := ?_) ⟨_, rfl, rfl, by rfl, ?_⟩ (by kernel_rfl) (by kernel_rfl) (by kernel_rfl) (fun _ _ _ h => h) hHeld ?_
                                rotate_left
                                · (intro w hSw; (try dsimp only at hSw); go_simp; try with_reducible rfl)
                                simp only [Act.put, List.setIfInBounds_toArray, List.set_cons_zero, List.set_cons_succ]
                                refine held_take 8 115 (v := ?_) ⟨_, rfl, rfl, by rfl, ?_⟩ (by kernel_rfl) (by kernel_rfl) (by kernel_rfl) (fun _ _ _ h => h) hHeld ?_
                                rotate_left
                                · (intro w hSw; (try dsimp only at hSw); go_simp; try with_reducible rfl)
                                simp only [Act.put, List.setIfInBounds_toArray, List.set_cons_zero, List.set_cons_succ]
                                refine wpAnyH_ready (rs := [6]) (by kernel_rfl) (by simp) ?_
                                refine AllReadyH.cons (o := _) rfl (fun K hK => ?_) AllReadyH.nil
                                go_simp
                                go_at_call 22
                                refine (own_any _ _ _ _ _ _ _ _).mono ?_
                                rintro e w6 ⟨rfl, hqw6⟩
                                go_wp2_with fail
                                have hkw6 : Kept w5 w6 := ((Turned.refl _ w5).drew).to hqw6
                                refine hK.out _ _ (HHELD.out _ hkw6) (fun hHeld => ?_)
                                clear hK K
                                refine wpAnyH_ready (rs := [9]) (by kernel_rfl) (by simp) ?_
                                refine AllReadyH.cons (o := _) rfl (fun K hK => ?_) AllReadyH.nil
                                go_simp
                                go_at_call 22
                                refine (own_any _ _ _ _ _ _ _ _).mono ?_
                                rintro e w7 ⟨rfl, hqw7⟩
                                go_wp2_with fail
                                have hkw7 : Kept w5 w7 := hkw6.to hqw7
                                refine hK.out _ _ (HHELD.out _ hkw7) (fun hHeld => ?_)
                                clear hK K
                                refine wpAnyH_ready (rs := [10]) (by kernel_rfl) (by simp) ?_
                                refine AllReadyH.cons (o := _) rfl (fun K hK => ?_) AllReadyH.nil
                                go_simp
                                go_at_call 26
                                refine (HASK.out _ (hC5.since.to hkw7)).mono ?_
                                rintro e w8 ⟨rfl, hqw8⟩
                                go_wp2_with fail
                                have hkw8 : Kept w5 w8 := hkw7.to hqw8
                                refine hK.out _ _ (HHELD.out _ hkw8) (fun hHeld => ?_)
                                clear hK K
                                refine held_take 11 118 (v := ?_) ⟨_, rfl, rfl, by rfl, ?_⟩ (by kernel_rfl) (by kernel_rfl) (by kernel_rfl) (fun _ _ _ h => h) hHeld ?_
                                rotate_left
                                · (intro w hSw; (try dsimp only at hSw); go_simp; try with_reducible rfl)
                                simp only [Act.put, List.setIfInBounds_toArray, List.set_cons_zero, List.set_cons_succ]
                                refine held_take 12 119 (v := ?_) ⟨_, rfl, rfl, by rfl, ?_⟩ (by kernel_rfl) (by kernel_rfl) (by kernel_rfl) (fun _ _ _ h => h) hHeld ?_
                                rotate_left
                                · (intro w hSw; (try dsimp only at hSw); go_simp; try with_reducible rfl)
                                simp only [Act.put, List.setIfInBounds_toArray, List.set_cons_zero, List.set_cons_succ]
                                refine held_take 13 120 (v := ?_) ⟨_, rfl, rfl, by rfl, ?_⟩ (by kernel_rfl) (by kernel_rfl) (by kernel_rfl) (fun _ _ _ h => h) hHeld ?_
                                rotate_left
                                · (intro w hSw; (try dsimp only at hSw); go_simp; try with_reducible rfl)
                                simp only [Act.put, List.setIfInBounds_toArray, List.set_cons_zero, List.set_cons_succ]
                                refine held_take 14 121 (v := ?_) ⟨_, rfl, rfl, by rfl, ?_⟩ (by kernel_rfl) (by kernel_rfl) (by kernel_rfl) (fun _ _ _ h => h) hHeld ?_
                                rotate_left
                                · (intro w hSw; (try dsimp only at hSw); go_simp; try with_reducible rfl)
                                simp only [Act.put, List.setIfInBounds_toArray, List.set_cons_zero, List.set_cons_succ]
                                refine held_take 15 122 (v := ?_) ⟨_, rfl, rfl, by rfl, ?_⟩ (by kernel_rfl) (by kernel_rfl) (by kernel_rfl) (fun _ _ _ h => h) hHeld ?_
                                rotate_left
                                · (intro w hSw; (try dsimp only at hSw); go_simp; try with_reducible rfl)
                                simp only [Act.put, List.setIfInBounds_toArray, List.set_cons_zero, List.set_cons_succ]
                                refine held_take 16 123 (v := ?_) ⟨_, rfl, rfl, by rfl, ?_⟩ (by kernel_rfl) (by kernel_rfl) (by kernel_rfl) (fun _ _ _ h => h) hHeld ?_
                                rotate_left
                                · (intro w hSw; (try dsimp only at hSw); go_simp; try with_reducible rfl)
                                simp only [Act.put, List.setIfInBounds_toArray, List.set_cons_zero, List.set_cons_succ]
                                refine held_take 17 124 (v := ?_) ⟨_, rfl, rfl, by rfl, ?_⟩ (by kernel_rfl) (by kernel_rfl) (by kernel_rfl) (fun _ _ _ h => h) hHeld ?_
                                rotate_left
                                · (intro w hSw; (try dsimp only at hSw); go_simp; try with_reducible rfl)
                                simp only [Act.put, List.setIfInBounds_toArray, List.set_cons_zero, List.set_cons_succ]
                                refine held_take 18 125 (v := ?_) ⟨_, rfl, rfl, by rfl, ?_⟩ (by kernel_rfl) (by kernel_rfl) (by kernel_rfl) (fun _ _ _ h => h) hHeld ?_
                                rotate_left
                                · (intro w hSw; (try dsimp only at hSw); go_simp; try with_reducible rfl)
                                simp only [Act.put, List.setIfInBounds_toArray, List.set_cons_zero, List.set_cons_succ]
                                refine held_take 19 126 (v := ?_) ⟨_, rfl, rfl, by rfl, ?_⟩ (by kernel_rfl) (by kernel_rfl) (by kernel_rfl) (fun _ _ _ h => h) hHeld ?_
                                rotate_left
                                · (intro w hSw; (try dsimp only at hSw); go_simp; try with_reducible rfl)
                                simp only [Act.put, List.setIfInBounds_toArray, List.set_cons_zero, List.set_cons_succ]
                                refine held_take 20 127 (v := ?_) ⟨_, rfl, rfl, by rfl, ?_⟩ (by kernel_rfl) (by kernel_rfl) (by kernel_rfl) (fun _ _ _ h => h) hHeld ?_
                                rotate_left
                                · (intro w hSw; (try dsimp only at hSw); go_simp; try with_reducible rfl)
                                simp only [Act.put, List.setIfInBounds_toArray, List.set_cons_zero, List.set_cons_succ]
                                refine held_take 21 128 (v := ?_) ⟨_, rfl, rfl, by rfl, ?_⟩ (by kernel_rfl) (by kernel_rfl) (by kernel_rfl) (fun _ _ _ h => h) hHeld ?_
                                rotate_left
                                · (intro w hSw; (try dsimp only at hSw); go_simp; try with_reducible rfl)
                                simp only [Act.put, List.setIfInBounds_toArray, List.set_cons_zero, List.set_cons_succ]
                                refine wpAnyH_done (by kernel_rfl) ?_ _
                                have hC8 := hC5.kept hkw8
                                have hX8 := HX5.out.turned hkw8 (fun h => h)
                                have hY8 := HY5.out.turned hkw8 (fun h => h)
                                have v2 := hY8.c6
                                have v3 := hY8.c4
                                have v4 := hY8.c5
                                have v5 := hY8.c7
                                have u3 := hX8.c4
                                have u4 := hX8.c5
                                have u5 := hX8.c7
                                rw [HE1.out] at v2
                                rw [HE2.out] at v3
                                rw [HE3.out] at v4
                                have q1 : (en.told != en.told) = false := by simp
                                have q2 : (x.ver != x.ver) = false := by simp
                                have q3 : (x.turn != x.turn) = false := by simp
                                have q4 : decide (y.t ≤ x.t) = false := by rw [decide_eq_false_iff_not]; omega
                                go_wp2_with fail
                                go_roundg (gk - 1)
                                case measure => have := HRG.out; omega
                                case rel => exact ⟨true, r', _, by have := HRG.out; omega, rfl, rfl, rfl, by omega, (fun h => by cases h), hC8, hX8⟩
                              · have HNX : Hid (i0 < r') := HNO.out (fun h => ha2 h.2.2.2)
                                have da2 : decide (y.a ≤ 2) = false := by simpa using ha2
                                clear HYES HNO hqe
                                have da0 : decide (0 ≤ y.a) = true := by simpa using ha0
                                clear m0 m2
                                go_upto_region 29 with (first
                                  | (refine wpList_load_mid rfl 36 (.tmp 88) rfl b (o + r' * 8) rfl y.cs.toList _ hrng Try.underlying36 rfl info_cact ?_)
                                  | (refine wpList_store_blk rfl (.tmp 12) (.tmp 89) rfl rfl (cs' := y.cs) rfl hBz.out info_cact rfl (cact_one y) ?_; intro w5 hY5 hT5 hs5; clear hs5))
                                have hT35 : Turned (fun k => wr.heap.size ≤ k) wr w5 := ((Turned.refl _ wr).alloc _).then_ hT5 (fun i hi h => by omega)
                                have hX5 := hX.turned hT35 (by omega)
                                have hC5 := hC.beside hT35 (by omega) (by omega) (fun k hk => by omega)
                                have hY5' : ActAt w5 wr.heap.size y := hY5
                                have HX5 := Lib.hid hX5
                                have HY5 := Lib.hid hY5'
                                have f0 := hY5'.c0
                                have f1 := hY5'.c1
                                have x1 := hX5.c1
                                have HHELD : Hid (∀ W, Kept w5 W → _) := Lib.hid (fun W h => acts_held hX5 hY5' (W := W) h)
                                clear hrng hBz hT5 hY5 hY5' hX5 hT35 hX hC
                                generalize wr.heap.size = gy at HY5 HHELD hxlt hCl f0 f1 ⊢
                                have HJ := Lib.hid hj
                                have HGKO := Lib.hid hgkO
                                clear hj hgkO
                                go_wp2_with fail
                                have hj := HJ.out
                                have hgkO := HGKO.out
                                clear f0 f1 x1
                                refine wp_region_held_drew (S := fun W => Kept w5 W ∧ W.cell? ⟨gx, 1, none⟩ = some (.int .i64 x.ob) ∧ W.cell? ⟨gx, 2, none⟩ = some (.int .i64 x.op) ∧ W.cell? ⟨gx, 3, none⟩ = some (.slice x.A x.who.length x.c) ∧ W.cell? ⟨gx, 4, none⟩ = some (.int .i64 x.ver) ∧ W.cell? ⟨gx, 5, none⟩ = some (.int .i64 x.turn) ∧ W.cell? ⟨gy, 0, none⟩ = some (.int .i64 y.kind) ∧ W.cell? ⟨gy, 1, none⟩ = some (.int .i64 y.ob) ∧ W.cell? ⟨gy, 2, none⟩ = some (.int .i64 y.op) ∧ W.cell? ⟨gy, 3, none⟩ = some (.slice y.A y.who.length y.c) ∧ W.cell? ⟨gy, 4, none⟩ = some (.int .i64 y.ver) ∧ W.cell? ⟨gy, 5, none⟩ = some (.int .i64 y.turn) ∧ W.cell? ⟨gy, 6, none⟩ = some (.int .i64 y.a)) (by kernel_rfl) (HHELD.out _ (Turned.refl _ w5).drew) (fun hHeld => ?_)
                                refine held_take 0 107 (v := ?_) ⟨_, rfl, rfl, by rfl, ?_⟩ (by kernel_rfl) (by kernel_rfl) (by kernel_rfl) (fun _ _ _ h => h) hHeld ?_
                                rotate_left
                                · (intro w hSw; (try dsimp only at hSw); go_simp; try with_reducible rfl)
                                simp only [Act.put, List.setIfInBounds_toArray, List.set_cons_zero, List.set_cons_succ]
                                refine held_take 1 108 (v := ?_) ⟨_, rfl, rfl, by rfl, ?_⟩ (by kernel_rfl) (by kernel_rfl) (by kernel_rfl) (fun _ _ _ h => h) hHeld ?_
                                rotate_left
                                · (intro w hSw; (try dsimp only at hSw); go_simp; try with_reducible rfl)
                                simp only [Act.put, List.setIfInBounds_toArray, List.set_cons_zero, List.set_cons_succ]
                                refine held_take 2 109 (v := ?_) ⟨_, rfl, rfl, by rfl, ?_⟩ (by kernel_rfl) (by kernel_rfl) (by kernel_rfl) (fun _ _ _ h => h) hHeld ?_
                                rotate_left
                                · (intro w hSw; (try dsimp only at hSw); go_simp; try with_reducible rfl)
                                simp only [Act.put, List.setIfInBounds_toArray, List.set_cons_zero, List.set_cons_succ]
                                refine held_take 3 110 (v := ?_) ⟨_, rfl, rfl, by rfl, ?_⟩ (by kernel_rfl) (by kernel_rfl) (by kernel_rfl) (fun _ _ _ h => h) hHeld ?_
                                rotate_left
                                · (intro w hSw; (try dsimp only at hSw); go_simp; try with_reducible rfl)
                                simp only [Act.put, List.setIfInBounds_toArray, List.set_cons_zero, List.set_cons_succ]
                                refine held_take 4 111 (v := ?_) ⟨_, rfl, rfl, by rfl, ?_⟩ (by kernel_rfl) (by kernel_rfl) (by kernel_rfl) (fun _ _ _ h => h) hHeld ?_
                                rotate_left
                                · (intro w hSw; (try dsimp only at hSw); go_simp; try with_reducible rfl)
                                simp only [Act.put, List.setIfInBounds_toArray, List.set_cons_zero, List.set_cons_succ]
                                refine held_take 5 112 (v := ?_) ⟨_, rfl, rfl, by rfl, ?_⟩ (by kernel_rfl) (by kernel_rfl) (by kernel_rfl) (fun _ _ _ h => h) hHeld ?_
                                rotate_left
                                · (intro w hSw; (try dsimp only at hSw); go_simp; try with_reducible rfl)
                                simp only [Act.put, List.setIfInBounds_toArray, List.set_cons_zero, List.set_cons_succ]
                                refine held_take 7 114 (v := ?_) ⟨_, rfl, rfl, by rfl, ?_⟩ (by kernel_rfl) (by kernel_rfl) (by kernel_rfl) (fun _ _ _ h => h) hHeld ?_
                                rotate_left
                                · (intro w hSw; (try dsimp only at hSw); go_simp; try with_reducible rfl)
                                simp only [Act.put, List.setIfInBounds_toArray, List.set_cons_zero, List.set_cons_succ]
                                refine held_take 8 115 (v := ?_) ⟨_, rfl, rfl, by rfl, ?_⟩ (by kernel_rfl) (by kernel_rfl) (by kernel_rfl) (fun _ _ _ h => h) hHeld ?_
                                rotate_left
                                · (intro w hSw; (try dsimp only at hSw); go_simp; try with_reducible rfl)
                                simp only [Act.put, List.setIfInBounds_toArray, List.set_cons_zero, List.set_cons_succ]
                                refine wpAnyH_ready (rs := [6]) (by kernel_rfl) (by simp) ?_
                                refine AllReadyH.cons (o := _) rfl (fun K hK => ?_) AllReadyH.nil
                                go_simp
                                go_at_call 22
                                refine (own_any _ _ _ _ _ _ _ _).mono ?_
                                rintro e w6 ⟨rfl, hqw6⟩
                                go_wp2_with fail
                                have hkw6 : Kept w5 w6 := ((Turned.refl _ w5).drew).to hqw6
                                refine hK.out _ _ (HHELD.out _ hkw6) (fun hHeld => ?_)
                                clear hK K
                                refine wpAnyH_ready (rs := [9]) (by kernel_rfl) (by simp) ?_
                                refine AllReadyH.cons (o := _) rfl (fun K hK => ?_) AllReadyH.nil
                                go_simp
                                go_at_call 22
                                refine (own_any _ _ _ _ _ _ _ _).mono ?_
                                rintro e w7 ⟨rfl, hqw7⟩
                                go_wp2_with fail
                                have hkw7 : Kept w5 w7 := hkw6.to hqw7
                                refine hK.out _ _ (HHELD.out _ hkw7) (fun hHeld => ?_)
                                clear hK K
                                refine wpAnyH_ready (rs := [10]) (by kernel_rfl) (by simp) ?_
                                refine AllReadyH.cons (o := _) rfl (fun K hK => ?_) AllReadyH.nil
                                go_simp
                                go_at_call 26
                                refine (HASK.out _ (hC5.since.to hkw7)).mono ?_
                                rintro e w8 ⟨rfl, hqw8⟩
                                go_wp2_with fail
                                have hkw8 : Kept w5 w8 := hkw7.to hqw8
                                refine hK.out _ _ (HHELD.out _ hkw8) (fun hHeld => ?_)
                                clear hK K
                                refine held_take 11 118 (v := ?_) ⟨_, rfl, rfl, by rfl, ?_⟩ (by kernel_rfl) (by kernel_rfl) (by kernel_rfl) (fun _ _ _ h => h) hHeld ?_
                                rotate_left
                                · (intro w hSw; (try dsimp only at hSw); go_simp; try with_reducible rfl)
                                simp only [Act.put, List.setIfInBounds_toArray, List.set_cons_zero, List.set_cons_succ]
                                refine held_take 12 119 (v := ?_) ⟨_, rfl, rfl, by rfl, ?_⟩ (by kernel_rfl) (by kernel_rfl) (by kernel_rfl) (fun _ _ _ h => h) hHeld ?_
                                rotate_left
                                · (intro w hSw; (try dsimp only at hSw); go_simp; try with_reducible rfl)
                                simp only [Act.put, List.setIfInBounds_toArray, List.set_cons_zero, List.set_cons_succ]
                                refine held_take 13 120 (v := ?_) ⟨_, rfl, rfl, by rfl, ?_⟩ (by kernel_rfl) (by kernel_rfl) (by kernel_rfl) (fun _ _ _ h => h) hHeld ?_
                                rotate_left
                                · (intro w hSw; (try dsimp only at hSw); go_simp; try with_reducible rfl)
                                simp only [Act.put, List.setIfInBounds_toArray, List.set_cons_zero, List.set_cons_succ]
                                refine held_take 14 121 (v := ?_) ⟨_, rfl, rfl, by rfl, ?_⟩ (by kernel_rfl) (by kernel_rfl) (by kernel_rfl) (fun _ _ _ h => h) hHeld ?_
                                rotate_left
                                · (intro w hSw; (try dsimp only at hSw); go_simp; try with_reducible rfl)
                                simp only [Act.put, List.setIfInBounds_toArray, List.set_cons_zero, List.set_cons_succ]
                                refine held_take 15 122 (v := ?_) ⟨_, rfl, rfl, by rfl, ?_⟩ (by kernel_rfl) (by kernel_rfl) (by kernel_rfl) (fun _ _ _ h => h) hHeld ?_
                                rotate_left
                                · (intro w hSw; (try dsimp only at hSw); go_simp; try with_reducible rfl)
                                simp only [Act.put, List.setIfInBounds_toArray, List.set_cons_zero, List.set_cons_succ]
                                refine held_take 16 123 (v := ?_) ⟨_, rfl, rfl, by rfl, ?_⟩ (by kernel_rfl) (by kernel_rfl) (by kernel_rfl) (fun _ _ _ h => h) hHeld ?_
                                rotate_left
                                · (intro w hSw; (try dsimp only at hSw); go_simp; try with_reducible rfl)
                                simp only [Act.put, List.setIfInBounds_toArray, List.set_cons_zero, List.set_cons_succ]
                                refine held_take 17 124 (v := ?_) ⟨_, rfl, rfl, by rfl, ?_⟩ (by kernel_rfl) (by kernel_rfl) (by kernel_rfl) (fun _ _ _ h => h) hHeld ?_
                                rotate_left
                                · (intro w hSw; (try dsimp only at hSw); go_simp; try with_reducible rfl)
                                simp only [Act.put, List.setIfInBounds_toArray, List.set_cons_zero, List.set_cons_succ]
                                refine held_take 18 125 (v := ?_) ⟨_, rfl, rfl, by rfl, ?_⟩ (by kernel_rfl) (by kernel_rfl) (by kernel_rfl) (fun _ _ _ h => h) hHeld ?_
                                rotate_left
                                · (intro w hSw; (try dsimp only at hSw); go_simp; try with_reducible rfl)
                                simp only [Act.put, List.setIfInBounds_toArray, List.set_cons_zero, List.set_cons_succ]
                                refine held_take 19 126 (v := ?_) ⟨_, rfl, rfl, by rfl, ?_⟩ (by kernel_rfl) (by kernel_rfl) (by kernel_rfl) (fun _ _ _ h => h) hHeld ?_
                                rotate_left
                                · (intro w hSw; (try dsimp only at hSw); go_simp; try with_reducible rfl)
                                simp only [Act.put, List.setIfInBounds_toArray, List.set_cons_zero, List.set_cons_succ]
                                refine held_take 20 127 (v := ?_) ⟨_, rfl, rfl, by rfl, ?_⟩ (by kernel_rfl) (by kernel_rfl) (by kernel_rfl) (fun _ _ _ h => h) hHeld ?_
                                rotate_left
                                · (intro w hSw; (try dsimp only at hSw); go_simp; try with_reducible rfl)
                                simp only [Act.put, List.setIfInBounds_toArray, List.set_cons_zero, List.set_cons_succ]
                                refine held_take 21 128 (v := ?_) ⟨_, rfl, rfl, by rfl, ?_⟩ (by kernel_rfl) (by kernel_rfl) (by kernel_rfl) (fun _ _ _ h => h) hHeld ?_
                                rotate_left
                                · (intro w hSw; (try dsimp only at hSw); go_simp; try with_reducible rfl)
                                simp only [Act.put, List.setIfInBounds_toArray, List.set_cons_zero, List.set_cons_succ]
                                refine wpAnyH_done (by kernel_rfl) ?_ _
                                have hC8 := hC5.kept hkw8
                                have hX8 := HX5.out.turned hkw8 (fun h => h)
                                go_wp2_with fail
                                go_roundg (gk - 1)
                                case measure => have := HRG.out; omega
                                case rel => exact ⟨false, r', _, by have := HRG.out; omega, rfl, rfl, rfl, by omega, fun _ => HNX.out, hC8, hX8⟩
                            · have HNX : Hid (i0 < r') := HNO.out (fun h => ha0 h.2.2.1)
                              have da0 : decide (0 ≤ y.a) = false := by simpa using ha0
                              clear HYES HNO hqe
                              clear m0 m2
                              go_upto_region 29 with (first
                                | (refine wpList_load_mid rfl 36 (.tmp 88) rfl b (o + r' * 8) rfl y.cs.toList _ hrng Try.underlying36 rfl info_cact ?_)
                                | (refine wpList_store_blk rfl (.tmp 12) (.tmp 89) rfl rfl (cs' := y.cs) rfl hBz.out info_cact rfl (cact_one y) ?_; intro w5 hY5 hT5 hs5; clear hs5))
                              have hT35 : Turned (fun k => wr.heap.size ≤ k) wr w5 := ((Turned.refl _ wr).alloc _).then_ hT5 (fun i hi h => by omega)
                              have hX5 := hX.turned hT35 (by omega)
                              have hC5 := hC.beside hT35 (by omega) (by omega) (fun k hk => by omega)
                              have hY5' : ActAt w5 wr.heap.size y := hY5
                              have HX5 := Lib.hid hX5
                              have HY5 := Lib.hid hY5'
                              have f0 := hY5'.c0
                              have f1 := hY5'.c1
                              have x1 := hX5.c1
                              have HHELD : Hid (∀ W, Kept w5 W → _) := Lib.hid (fun W h => acts_held hX5 hY5' (W := W) h)
                              clear hrng hBz hT5 hY5 hY5' hX5 hT35 hX hC
                              generalize wr.heap.size = gy at HY5 HHELD hxlt hCl f0 f1 ⊢
                              have HJ := Lib.hid hj
                              have HGKO := Lib.hid hgkO
                              clear hj hgkO
                              go_wp2_with fail
                              have hj := HJ.out
                              have hgkO := HGKO.out
                              clear f0 f1 x1
                              refine wp_region_held_drew (S := fun W => Kept w5 W ∧ W.cell? ⟨gx, 1, none⟩ = some (.int .i64 x.ob) ∧ W.cell? ⟨gx, 2, none⟩ = some (.int .i64 x.op) ∧ W.cell? ⟨gx, 3, none⟩ = some (.slice x.A x.who.length x.c) ∧ W.cell? ⟨gx, 4, none⟩ = some (.int .i64 x.ver) ∧ W.cell? ⟨gx, 5, none⟩ = some (.int .i64 x.turn) ∧ W.cell? ⟨gy, 0, none⟩ = some (.int .i64 y.kind) ∧ W.cell? ⟨gy, 1, none⟩ = some (.int .i64 y.ob) ∧ W.cell? ⟨gy, 2, none⟩ = some (.int .i64 y.op) ∧ W.cell? ⟨gy, 3, none⟩ = some (.slice y.A y.who.length y.c) ∧ W.cell? ⟨gy, 4, none⟩ = some (.int .i64 y.ver) ∧ W.cell? ⟨gy, 5, none⟩ = some (.int .i64 y.turn) ∧ W.cell? ⟨gy, 6, none⟩ = some (.int .i64 y.a)) (by kernel_rfl) (HHELD.out _ (Turned.refl _ w5).drew) (fun hHeld => ?_)
                              refine held_take 0 107 (v := ?_) ⟨_, rfl, rfl, by rfl, ?_⟩ (by kernel_rfl) (by kernel_rfl) (by kernel_rfl) (fun _ _ _ h => h) hHeld ?_
                              rotate_left
                              · (intro w hSw; (try dsimp only at hSw); go_simp; try with_reducible rfl)
                              simp only [Act.put, List.setIfInBounds_toArray, List.set_cons_zero, List.set_cons_succ]
                              refine held_take 1 108 (v := ?_) ⟨_, rfl, rfl, by rfl, ?_⟩ (by kernel_rfl) (by kernel_rfl) (by kernel_rfl) (fun _ _ _ h => h) hHeld ?_
                              rotate_left
                              · (intro w hSw; (try dsimp only at hSw); go_simp; try with_reducible rfl)
                              simp only [Act.put, List.setIfInBounds_toArray, List.set_cons_zero, List.set_cons_succ]
                              refine held_take 2 109 (v := ?_) ⟨_, rfl, rfl, by rfl, ?_⟩ (by kernel_rfl) (by kernel_rfl) (by kernel_rfl) (fun _ _ _ h => h) hHeld ?_
                              rotate_left
                              · (intro w hSw; (try dsimp only at hSw); go_simp; try with_reducible rfl)
                              simp only [Act.put, List.setIfInBounds_toArray, List.set_cons_zero, List.set_cons_succ]
                              refine held_take 3 110 (v := ?_) ⟨_, rfl, rfl, by rfl, ?_⟩ (by kernel_rfl) (by kernel_rfl) (by kernel_rfl) (fun _ _ _ h => h) hHeld ?_
                              rotate_left
                              · (intro w hSw; (try dsimp only at hSw); go_simp; try with_reducible rfl)
                              simp only [Act.put, List.setIfInBounds_toArray, List.set_cons_zero, List.set_cons_succ]
                              refine held_take 4 111 (v := ?_) ⟨_, rfl, rfl, by rfl, ?_⟩ (by kernel_rfl) (by kernel_rfl) (by kernel_rfl) (fun _ _ _ h => h) hHeld ?_
                              rotate_left
                              · (intro w hSw; (try dsimp only at hSw); go_simp; try with_reducible rfl)
                              simp only [Act.put, List.setIfInBounds_toArray, List.set_cons_zero, List.set_cons_succ]
                              refine held_take 5 112 (v := ?_) ⟨_, rfl, rfl, by rfl, ?_⟩ (by kernel_rfl) (by kernel_rfl) (by kernel_rfl) (fun _ _ _ h => h) hHeld ?_
                              rotate_left
                              · (intro w hSw; (try dsimp only at hSw); go_simp; try with_reducible rfl)
                              simp only [Act.put, List.setIfInBounds_toArray, List.set_cons_zero, List.set_cons_succ]
                              refine held_take 7 114 (v := ?_) ⟨_, rfl, rfl, by rfl, ?_⟩ (by kernel_rfl) (by kernel_rfl) (by kernel_rfl) (fun _ _ _ h => h) hHeld ?_
                              rotate_left
                              · (intro w hSw; (try dsimp only at hSw); go_simp; try with_reducible rfl)
                              simp only [Act.put, List.setIfInBounds_toArray, List.set_cons_zero, List.set_cons_succ]
                              refine held_take 8 115 (v := ?_) ⟨_, rfl, rfl, by rfl, ?_⟩ (by kernel_rfl) (by kernel_rfl) (by kernel_rfl) (fun _ _ _ h => h) hHeld ?_
                              rotate_left
                              · (intro w hSw; (try dsimp only at hSw); go_simp; try with_reducible rfl)
                              simp only [Act.put, List.setIfInBounds_toArray, List.set_cons_zero, List.set_cons_succ]
                              refine wpAnyH_ready (rs := [6]) (by kernel_rfl) (by simp) ?_
                              refine AllReadyH.cons (o := _) rfl (fun K hK => ?_) AllReadyH.nil
                              go_simp
                              go_at_call 22
                              refine (own_any _ _ _ _ _ _ _ _).mono ?_
                              rintro e w6 ⟨rfl, hqw6⟩
                              go_wp2_with fail
                              have hkw6 : Kept w5 w6 := ((Turned.refl _ w5).drew).to hqw6
                              refine hK.out _ _ (HHELD.out _ hkw6) (fun hHeld => ?_)
                              clear hK K
                              refine wpAnyH_ready (rs := [9]) (by kernel_rfl) (by simp) ?_
                              refine AllReadyH.cons (o := _) rfl (fun K hK => ?_) AllReadyH.nil
                              go_simp
                              go_at_call 22
                              refine (own_any _ _ _ _ _ _ _ _).mono ?_
                              rintro e w7 ⟨rfl, hqw7⟩
                              go_wp2_with fail
                              have hkw7 : Kept w5 w7 := hkw6.to hqw7
                              refine hK.out _ _ (HHELD.out _ hkw7) (fun hHeld => ?_)
                              clear hK K
                              refine wpAnyH_ready (rs := [10]) (by kernel_rfl) (by simp) ?_
                              refine AllReadyH.cons (o := _) rfl (fun K hK => ?_) AllReadyH.nil
                              go_simp
                              go_at_call 26
                              refine (HASK.out _ (hC5.since.to hkw7)).mono ?_
                              rintro e w8 ⟨rfl, hqw8⟩
                              go_wp2_with fail
                              have hkw8 : Kept w5 w8 := hkw7.to hqw8
                              refine hK.out _ _ (HHELD.out _ hkw8) (fun hHeld => ?_)
                              clear hK K
                              refine held_take 11 118 (v := ?_) ⟨_, rfl, rfl, by rfl, ?_⟩ (by kernel_rfl) (by kernel_rfl) (by kernel_rfl) (fun _ _ _ h => h) hHeld ?_
                              rotate_left
                              · (intro w hSw; (try dsimp only at hSw); go_simp; try with_reducible rfl)
                              simp only [Act.put, List.setIfInBounds_toArray, List.set_cons_zero, List.set_cons_succ]
                              refine held_take 12 119 (v := ?_) ⟨_, rfl, rfl, by rfl, ?_⟩ (by kernel_rfl) (by kernel_rfl) (by kernel_rfl) (fun _ _ _ h => h) hHeld ?_
                              rotate_left
                              · (intro w hSw; (try dsimp only at hSw); go_simp; try with_reducible rfl)
                              simp only [Act.put, List.setIfInBounds_toArray, List.set_cons_zero, List.set_cons_succ]
                              refine held_take 13 120 (v := ?_) ⟨_, rfl, rfl, by rfl, ?_⟩ (by kernel_rfl) (by kernel_rfl) (by kernel_rfl) (fun _ _ _ h => h) hHeld ?_
                              rotate_left
                              · (intro w hSw; (try dsimp only at hSw); go_simp; try with_reducible rfl)
                              simp only [Act.put, List.setIfInBounds_toArray, List.set_cons_zero, List.set_cons_succ]
                              refine held_take 14 121 (v := ?_) ⟨_, rfl, rfl, by rfl, ?_⟩ (by kernel_rfl) (by kernel_rfl) (by kernel_rfl) (fun _ _ _ h => h) hHeld ?_
                              rotate_left
                              · (intro w hSw; (try dsimp only at hSw); go_simp; try with_reducible rfl)
                              simp only [Act.put, List.setIfInBounds_toArray, List.set_cons_zero, List.set_cons_succ]
                              refine held_take 15 122 (v := ?_) ⟨_, rfl, rfl, by rfl, ?_⟩ (by kernel_rfl) (by kernel_rfl) (by kernel_rfl) (fun _ _ _ h => h) hHeld ?_
                              rotate_left
                              · (intro w hSw; (try dsimp only at hSw); go_simp; try with_reducible rfl)
                              simp only [Act.put, List.setIfInBounds_toArray, List.set_cons_zero, List.set_cons_succ]
                              refine held_take 16 123 (v := ?_) ⟨_, rfl, rfl, by rfl, ?_⟩ (by kernel_rfl) (by kernel_rfl) (by kernel_rfl) (fun _ _ _ h => h) hHeld ?_
                              rotate_left
                              · (intro w hSw; (try dsimp only at hSw); go_simp; try with_reducible rfl)
                              simp only [Act.put, List.setIfInBounds_toArray, List.set_cons_zero, List.set_cons_succ]
                              refine held_take 17 124 (v := ?_) ⟨_, rfl, rfl, by rfl, ?_⟩ (by kernel_rfl) (by kernel_rfl) (by kernel_rfl) (fun _ _ _ h => h) hHeld ?_
                              rotate_left
                              · (intro w hSw; (try dsimp only at hSw); go_simp; try with_reducible rfl)
                              simp only [Act.put, List.setIfInBounds_toArray, List.set_cons_zero, List.set_cons_succ]
                              refine held_skip 18 125 ⟨_, rfl, rfl, by rfl⟩ (by kernel_rfl) (by kernel_rfl) (by kernel_rfl) (fun _ _ _ h => h) hHeld ?_
                              simp only [Act.put, List.setIfInBounds_toArray, List.set_cons_zero, List.set_cons_succ]
                              refine held_skip 19 126 ⟨_, rfl, rfl, by rfl⟩ (by kernel_rfl) (by kernel_rfl) (by kernel_rfl) (fun _ _ _ h => h) hHeld ?_
                              simp only [Act.put, List.setIfInBounds_toArray, List.set_cons_zero, List.set_cons_succ]
                              refine held_skip 20 127 ⟨_, rfl, rfl, by rfl⟩ (by kernel_rfl) (by kernel_rfl) (by kernel_rfl) (fun _ _ _ h => h) hHeld ?_
                              simp only [Act.put, List.setIfInBounds_toArray, List.set_cons_zero, List.set_cons_succ]
                              refine held_take 21 128 (v := ?_) ⟨_, rfl, rfl, by rfl, ?_⟩ (by kernel_rfl) (by kernel_rfl) (by kernel_rfl) (fun _ _ _ h => h) hHeld ?_
                              rotate_left
                              · (intro w hSw; (try dsimp only at hSw); go_simp; try with_reducible rfl)
                              simp only [Act.put, List.setIfInBounds_toArray, List.set_cons_zero, List.set_cons_succ]
                              refine wpAnyH_done (by kernel_rfl) ?_ _
                              have hC8 := hC5.kept hkw8
                              have hX8 := HX5.out.turned hkw8 (fun h => h)
                              go_wp2_with fail
                              go_roundg (gk - 1)
                              case measure => have := HRG.out; omega
                              case rel => exact ⟨false, r', _, by have := HRG.out; omega, rfl, rfl, rfl, by omega, fun _ => HNX.out, hC8, hX8⟩
                        · have c0 : (y.kind == 0) = false := by simpa using m0
                          have HNX : Hid (i0 < r') := HNO.out (fun h => m0 h.1)
                          clear HYES HNO hy2' m0 m2
                          go_upto_region 29 with (first
                            | (refine wpList_load_mid rfl 36 (.tmp 88) rfl b (o + r' * 8) rfl y.cs.toList _ hrng Try.underlying36 rfl info_cact ?_)
                            | (refine wpList_store_blk rfl (.tmp 12) (.tmp 89) rfl rfl (cs' := y.cs) rfl hBz.out info_cact rfl (cact_one y) ?_; intro w5 hY5 hT5 hs5; clear hs5))
                          have hT35 : Turned (fun k => wr.heap.size ≤ k) wr w5 := ((Turned.refl _ wr).alloc _).then_ hT5 (fun i hi h => by omega)
                          have hX5 := hX.turned hT35 (by omega)
                          have hC5 := hC.beside hT35 (by omega) (by omega) (fun k hk => by omega)
                          have hY5' : ActAt w5 wr.heap.size y := hY5
                          have HX5 := Lib.hid hX5
                          have HY5 := Lib.hid hY5'
                          have f0 := hY5'.c0
                          have f1 := hY5'.c1
                          have x1 := hX5.c1
                          have HHELD : Hid (∀ W, Kept w5 W → _) := Lib.hid (fun W h => acts_held hX5 hY5' (W := W) h)
                          clear hrng hBz hT5 hY5 hY5' hX5 hT35 hX hC
                          generalize wr.heap.size = gy at HY5 HHELD hxlt hCl f0 f1 ⊢
                          have HJ := Lib.hid hj
                          have HGKO := Lib.hid hgkO
                          clear hj hgkO
                          go_wp2_with fail
                          have hj := HJ.out
                          have hgkO := HGKO.out
                          clear f0 f1 x1
                          refine wp_region_held_drew (S := fun W => Kept w5 W ∧ W.cell? ⟨gx, 1, none⟩ = some (.int .i64 x.ob) ∧ W.cell? ⟨gx, 2, none⟩ = some (.int .i64 x.op) ∧ W.cell? ⟨gx, 3, none⟩ = some (.slice x.A x.who.length x.c) ∧ W.cell? ⟨gx, 4, none⟩ = some (.int .i64 x.ver) ∧ W.cell? ⟨gx, 5, none⟩ = some (.int .i64 x.turn) ∧ W.cell? ⟨gy, 0, none⟩ = some (.int .i64 y.kind) ∧ W.cell? ⟨gy, 1, none⟩ = some (.int .i64 y.ob) ∧ W.cell? ⟨gy, 2, none⟩ = some (.int .i64 y.op) ∧ W.cell? ⟨gy, 3, none⟩ = some (.slice y.A y.who.length y.c) ∧ W.cell? ⟨gy, 4, none⟩ = some (.int .i64 y.ver) ∧ W.cell? ⟨gy, 5, none⟩ = some (.int .i64 y.turn) ∧ W.cell? ⟨gy, 6, none⟩ = some (.int .i64 y.a)) (by kernel_rfl) (HHELD.out _ (Turned.refl _ w5).drew) (fun hHeld => ?_)
                          refine held_take 0 107 (v := ?_) ⟨_, rfl, rfl, by rfl, ?_⟩ (by kernel_rfl) (by kernel_rfl) (by kernel_rfl) (fun _ _ _ h => h) hHeld ?_
                          rotate_left
                          · (intro w hSw; (try dsimp only at hSw); go_simp; try with_reducible rfl)
                          simp only [Act.put, List.setIfInBounds_toArray, List.set_cons_zero, List.set_cons_succ]
                          refine held_take 1 108 (v := ?_) ⟨_, rfl, rfl, by rfl, ?_⟩ (by kernel_rfl) (by kernel_rfl) (by kernel_rfl) (fun _ _ _ h => h) hHeld ?_
                          rotate_left
                          · (intro w hSw; (try dsimp only at hSw); go_simp; try with_reducible rfl)
                          simp only [Act.put, List.setIfInBounds_toArray, List.set_cons_zero, List.set_cons_succ]
                          refine held_take 2 109 (v := ?_) ⟨_, rfl, rfl, by rfl, ?_⟩ (by kernel_rfl) (by kernel_rfl) (by kernel_rfl) (fun _ _ _ h => h) hHeld ?_
                          rotate_left
                          · (intro w hSw; (try dsimp only at hSw); go_simp; try with_reducible rfl)
                          simp only [Act.put, List.setIfInBounds_toArray, List.set_cons_zero, List.set_cons_succ]
                          refine held_take 3 110 (v := ?_) ⟨_, rfl, rfl, by rfl, ?_⟩ (by kernel_rfl) (by kernel_rfl) (by kernel_rfl) (fun _ _ _ h => h) hHeld ?_
                          rotate_left
                          · (intro w hSw; (try dsimp only at hSw); go_simp; try with_reducible rfl)
                          simp only [Act.put, List.setIfInBounds_toArray, List.set_cons_zero, List.set_cons_succ]
                          refine held_skip 4 111 ⟨_, rfl, rfl, by rfl⟩ (by kernel_rfl) (by kernel_rfl) (by kernel_rfl) (fun _ _ _ h => h) hHeld ?_
                          simp only [Act.put, List.setIfInBounds_toArray, List.set_cons_zero, List.set_cons_succ]
                          refine held_skip 5 112 ⟨_, rfl, rfl, by rfl⟩ (by kernel_rfl) (by kernel_rfl) (by kernel_rfl) (fun _ _ _ h => h) hHeld ?_
                          simp only [Act.put, List.setIfInBounds_toArray, List.set_cons_zero, List.set_cons_succ]
                          refine held_skip 6 113 ⟨_, rfl, rfl, by rfl⟩ (by kernel_rfl) (by kernel_rfl) (by kernel_rfl) (fun _ _ _ h => h) hHeld ?_
                          simp only [Act.put, List.setIfInBounds_toArray, List.set_cons_zero, List.set_cons_succ]
                          refine held_skip 7 114 ⟨_, rfl, rfl, by rfl⟩ (by kernel_rfl) (by kernel_rfl) (by kernel_rfl) (fun _ _ _ h => h) hHeld ?_
                          simp only [Act.put, List.setIfInBounds_toArray, List.set_cons_zero, List.set_cons_succ]
                          refine held_skip 8 115 ⟨_, rfl, rfl, by rfl⟩ (by kernel_rfl) (by kernel_rfl) (by kernel_rfl) (fun _ _ _ h => h) hHeld ?_
                          simp only [Act.put, List.setIfInBounds_toArray, List.set_cons_zero, List.set_cons_succ]
                          refine held_skip 9 116 ⟨_, rfl, rfl, by rfl⟩ (by kernel_rfl) (by kernel_rfl) (by kernel_rfl) (fun _ _ _ h => h) hHeld ?_
                          simp only [Act.put, List.setIfInBounds_toArray, List.set_cons_zero, List.set_cons_succ]
                          refine held_skip 10 117 ⟨_, rfl, rfl, by rfl⟩ (by kernel_rfl) (by kernel_rfl) (by kernel_rfl) (fun _ _ _ h => h) hHeld ?_
                          simp only [Act.put, List.setIfInBounds_toArray, List.set_cons_zero, List.set_cons_succ]
                          refine held_take 11 118 (v := ?_) ⟨_, rfl, rfl, by rfl, ?_⟩ (by kernel_rfl) (by kernel_rfl) (by kernel_rfl) (fun _ _ _ h => h) hHeld ?_
                          rotate_left
                          · (intro w hSw; (try dsimp only at hSw); go_simp; try with_reducible rfl)
                          simp only [Act.put, List.setIfInBounds_toArray, List.set_cons_zero, List.set_cons_succ]
                          refine held_take 12 119 (v := ?_) ⟨_, rfl, rfl, by rfl, ?_⟩ (by kernel_rfl) (by kernel_rfl) (by kernel_rfl) (fun _ _ _ h => h) hHeld ?_
                          rotate_left
                          · (intro w hSw; (try dsimp only at hSw); go_simp; try with_reducible rfl)
                          simp only [Act.put, List.setIfInBounds_toArray, List.set_cons_zero, List.set_cons_succ]
                          refine held_skip 13 120 ⟨_, rfl, rfl, by rfl⟩ (by kernel_rfl) (by kernel_rfl) (by kernel_rfl) (fun _ _ _ h => h) hHeld ?_
                          simp only [Act.put, List.setIfInBounds_toArray, List.set_cons_zero, List.set_cons_succ]
                          refine held_skip 14 121 ⟨_, rfl, rfl, by rfl⟩ (by kernel_rfl) (by kernel_rfl) (by kernel_rfl) (fun _ _ _ h => h) hHeld ?_
                          simp only [Act.put, List.setIfInBounds_toArray, List.set_cons_zero, List.set_cons_succ]
                          refine held_skip 15 122 ⟨_, rfl, rfl, by rfl⟩ (by kernel_rfl) (by kernel_rfl) (by kernel_rfl) (fun _ _ _ h => h) hHeld ?_
                          simp only [Act.put, List.setIfInBounds_toArray, List.set_cons_zero, List.set_cons_succ]
                          refine held_take 16 123 (v := ?_) ⟨_, rfl, rfl, by rfl, ?_⟩ (by kernel_rfl) (by kernel_rfl) (by kernel_rfl) (fun _ _ _ h => h) hHeld ?_
                          rotate_left
                          · (intro w hSw; (try dsimp only at hSw); go_simp; try with_reducible rfl)
                          simp only [Act.put, List.setIfInBounds_toArray, List.set_cons_zero, List.set_cons_succ]
                          refine held_take 17 124 (v := ?_) ⟨_, rfl, rfl, by rfl, ?_⟩ (by kernel_rfl) (by kernel_rfl) (by kernel_rfl) (fun _ _ _ h => h) hHeld ?_
                          rotate_left
                          · (intro w hSw; (try dsimp only at hSw); go_simp; try with_reducible rfl)
                          simp only [Act.put, List.setIfInBounds_toArray, List.set_cons_zero, List.set_cons_succ]
                          refine held_skip 18 125 ⟨_, rfl, rfl, by rfl⟩ (by kernel_rfl) (by kernel_rfl) (by kernel_rfl) (fun _ _ _ h => h) hHeld ?_
                          simp only [Act.put, List.setIfInBounds_toArray, List.set_cons_zero, List.set_cons_succ]
                          refine held_skip 19 126 ⟨_, rfl, rfl, by rfl⟩ (by kernel_rfl) (by kernel_rfl) (by kernel_rfl) (fun _ _ _ h => h) hHeld ?_
                          simp only [Act.put, List.setIfInBounds_toArray, List.set_cons_zero, List.set_cons_succ]
                          refine held_skip 20 127 ⟨_, rfl, rfl, by rfl⟩ (by kernel_rfl) (by kernel_rfl) (by kernel_rfl) (fun _ _ _ h => h) hHeld ?_
                          simp only [Act.put, List.setIfInBounds_toArray, List.set_cons_zero, List.set_cons_succ]
                          refine held_take 21 128 (v := ?_) ⟨_, rfl, rfl, by rfl, ?_⟩ (by kernel_rfl) (by kernel_rfl) (by kernel_rfl) (fun _ _ _ h => h) hHeld ?_
                          rotate_left
                          · (intro w hSw; (try dsimp only at hSw); go_simp; try with_reducible rfl)
                          simp only [Act.put, List.setIfInBounds_toArray, List.set_cons_zero, List.set_cons_succ]
                          refine wpAnyH_done (by kernel_rfl) ?_ _
                          have hkw8 : Kept w5 w5.drew := (Turned.refl _ w5).drew
                          have hC8 := hC5.kept hkw8
                          have hX8 := HX5.out.turned hkw8 (fun h => h)
                          go_wp2_with fail
                          go_roundg (gk - 1)
                          case measure => have := HRG.out; omega
                          case rel => exact ⟨false, r', _, by have := HRG.out; omega, rfl, rfl, rfl, by omega, fun _ => HNX.out, hC8, hX8⟩
                    · clear hrg hz hfr
                      rcases hdz : decide (0 ≤ z) with _ | _
                      all_goals
                        go_wp2_with fail
                        go_roundg (gkO - 1)
                        case measure => omega
                        case rel => exact ⟨j + 1, n + 1, X', by omega, by go_num, by omega, by omega, by omega, hC, HH2.out, HS2.out⟩
              · have b1 : (x.kind != 1) = true := by simpa using k1
                have HH2 : Hid (Hist l (j + 1) X) := Lib.hid (HH.out.other HLX.out k0 k2 k3)
                clear k0 k1 k2 k3
                go_wp2_with fail
                go_roundg (gk - 1)
                case measure => omega
                case rel => exact ⟨j + 1, n, X, by omega, by go_num, by omega, by omega, hXl, hC3, HH2.out, HS2.out⟩
      · go_wp2_with fail
        go_ret
        exact ⟨rfl, hC3.since⟩
    · have hend : l.length ≤ j ∨ (j < l.length ∧ decide ((j : Int) < 200) = false) := by
        by_cases h : j < l.length
        · refine .inr ⟨h, ?_⟩
          rw [decide_eq_false_iff_not]
          omega
        · exact .inl (by omega)
      clear hgo
      rcases hend with hend | ⟨hend, hend2⟩
      all_goals
        go_wp2_with fail
        go_ret
        exact ⟨rfl, hC.since⟩
end Go.Proofs.Ytnicfiochnkjbaa
