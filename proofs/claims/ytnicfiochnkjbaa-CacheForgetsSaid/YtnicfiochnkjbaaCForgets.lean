/- CacheForgets: the walk. -/
import Derived.Test.YtnicfiochnkjbaaC20
namespace Go.Proofs.Ytnicfiochnkjbaa
open Go.RowKit

set_option maxRecDepth 100000 in
set_option maxHeartbeats 4000000 in
theorem forgets_walk (room : Int) (A : Option Addr) (cap : Nat) (l : List CAct) (ob : Int) (w : World) (hroom : i64 room) (hl : l.length ≤ maxLen) (hr : ReadsT cactV w w.heap.size 8 A l) (hok : ∀ x ∈ l, cactOk w x) :
    Calls Try.prog 4 #[.int .i64 room, .slice A l.length cap, .int .i64 ob] w fun e w' => e = .returned (.bool true) ∧ Kept w w' := by
  have AW := Lib.hid (awake18_any w)
  have HR := Lib.hid hr
  have HOK := Lib.hid hok
  unfold maxLen at hl
  clear hr hok
  go_enter Try.func4, Try.ntmps4
  go_wp2_with fail
  refine AW.out.mono ?_
  rintro e w1 ⟨rfl, hK1⟩
  clear AW
  have N := Lib.hid (new_p hK1 hroom)
  go_wp2_with fail
  refine N.out.mono ?_
  rintro e w2 h
  rcases h with ⟨hbad, rfl, rfl⟩ | ⟨⟨hr1, hr2⟩, p, mb, rfl, hC2, hK2, hp2, hm2⟩
  · have N2 := Lib.hid (new_p hK1 hroom)
    clear N
    go_wp2_with fail
    refine N2.out.mono ?_
    rintro e w2 h
    rcases h with ⟨_, rfl, rfl⟩ | ⟨h, _⟩
    · clear N2
      go_wp2_with fail
      go_ret
      exact ⟨rfl, hK1⟩
    · exfalso
      omega
  have N2 := Lib.hid (new_p hC2.since hroom)
  clear N hK1 hK2 hp2 hm2
  go_wp2_with fail
  refine N2.out.mono ?_
  rintro e w3 h
  rcases h with ⟨hbad, rfl, rfl⟩ | ⟨_, p', mb', rfl, hD3, hK3, hp3, hm3⟩
  · exfalso
    omega
  have hlt2 := hC2.lt
  have hC3 := hC2.kept hK3
  have far1 : p' ≠ p ∧ p' ≠ mb ∧ mb' ≠ p ∧ mb' ≠ mb := ⟨by omega, by omega, by omega, by omega⟩
  have nf1 : ¬ CFoot p mb p' := fun h => by rcases h with h | h <;> omega
  have nf2 : ¬ CFoot p mb mb' := fun h => by rcases h with h | h <;> omega
  have nf3 : ¬ CFoot p' mb' p := fun h => by rcases h with h | h <;> omega
  have nf4 : ¬ CFoot p' mb' mb := fun h => by rcases h with h | h <;> omega
  clear N2 hC2 hK3 hp3 hm3 hlt2 far1
  go_wp2_with fail
  go_loopg [9] l.length (fun gk i wr => ∃ (j n : Nat) (X : List Ent), j + gk = l.length ∧ i = .int .i64 j ∧ n ≤ j ∧ j ≤ 200 ∧ (X.length : Int) ≤ room ∧ CacheP w wr p mb room n X ∧ CacheP w wr p' mb' room n X ∧ ∀ x ∈ l.take j, largeR 600 x.who = false)
  case atStart => exact ⟨0, 0, [], Nat.zero_add _, rfl, Nat.le_refl _, by omega, by simp; omega, hC3, hD3, by simp⟩
  case round =>
    clear hC3 hD3
    obtain ⟨j, n, X, hj, rfl, hn, hj2, hXl, hC, hD, hsm0⟩ := hrel
    have HSM := Lib.hid hsm0
    clear hsm0
    by_cases hgo : j < l.length ∧ j < 200
    · obtain ⟨hjl, hj200⟩ := hgo
      obtain ⟨b, o, rfl, hbl, hcell⟩ := HR.out j hjl
      obtain ⟨x, hxe⟩ : ∃ x, x = l[j] := ⟨_, rfl⟩
      rw [← hxe] at hcell
      have hok : cactOk w x := by rw [hxe]; exact HOK.out _ (List.getElem_mem hjl)
      have HXE := Lib.hid hxe
      have hrng : wr.rangeAt b (o + j * 8) x.cs.toList := act8_cells (fun i hi => (hC.since.cell (p := ⟨b, o + j * 8 + i, none⟩) hbl (fun h => h)).trans (hcell i hi))
      have hBz : Hid (Blk (wr.alloc (.cells zAct 36)) wr.heap.size 36 zAct) := Lib.hid (Blk.new wr _ _)
      have i0 : (0 : Int) ≤ (j : Int) := by omega
      have i1 : (j : Int) < (l.length : Int) := by omega
      have d200 : decide ((j : Int) < 200) = true := by rw [decide_eq_true_eq]; omega
      clear hxe hcell
      go_wp2_with (first
        | (refine wpList_load_mid rfl 36 (.tmp 49) rfl b (o + j * 8) rfl x.cs.toList _ hrng Try.underlying36 rfl info_cact ?_)
        | (refine wpList_store_blk rfl (.tmp 10) (.tmp 50) rfl rfl (cs' := x.cs) rfl hBz.out info_cact rfl (cact_one x) ?_; intro w3 hX3 hT3 hs3; have e3 : w3.cell? ⟨wr.heap.size, 3, none⟩ = some (.slice x.A x.who.length x.c) := ActAt.c3 hX3))
      have hlt := hC.lt
      have hT03 : Turned (fun k => wr.heap.size ≤ k) wr w3 := ((Turned.refl _ wr).alloc _).then_ hT3 (fun i hi h => by omega)
      have hC3 := hC.beside hT03 (by omega) (by omega) (fun k hk => by omega)
      have hX3' : ActAt w3 wr.heap.size x := hX3
      have hgp : wr.heap.size ≠ p := by omega
      have hgm : wr.heap.size ≠ mb := by omega
      have hgf : ¬ CFoot p mb wr.heap.size := fun h => by rcases h with h | h <;> omega
      have hD3 := hD.beside hT03 (by have := hD.lt; omega) (by have := hD.lt; omega) (fun k hk => by omega)
      have hgd : ¬ CFoot p' mb' wr.heap.size := fun h => by have := hD.lt; rcases h with h | h <;> omega
      clear hD
      clear hrng hBz hT3 hs3 hX3 hC hT03 hlt
      refine (large_act hC3.since hok).mono ?_
      rintro e wx ⟨rfl, rfl⟩
      clear e3
      rcases hla : largeR 600 x.who with _ | _
      · have hsm := small_of hla
        have HSM2 : Hid (∀ y ∈ l.take (j + 1), largeR 600 y.who = false) := by
          intro y hy
          rw [List.take_succ_eq_append_getElem hjl] at hy
          rcases List.mem_append.1 hy with hy | hy
          · exact HSM.out y hy
          · rw [List.mem_singleton.1 hy, ← HXE.out]
            exact hla
        have e0 := hX3'.c0
        clear hla HSM
        by_cases k0 : x.kind = 0
        · have b0 : (x.kind == 0) = true := by simpa using k0
          have e6 := hX3'.c6
          have e7 := hX3'.c7
          have CP := Lib.hid (put_act hC3 hr1 (by omega) (by omega) hok hsm)
          have hXl' : ((putXE room X x.ent).length : Int) ≤ room := by
            unfold putXE
            split
            · exact putX_len hr1 hXl
            · exact hXl
          clear k0
          go_wp2_with (first | (refine wpList_load_mid rfl 25 (.tmp 59) rfl wr.heap.size 1 rfl x.key.toList _ (ActAt.key hX3') Try.underlying25 rfl info_key ?_))
          refine CP.out.mono ?_
          rintro e w5 ⟨rfl, hC5, hT5⟩
          have hD5 := hD3.beside hT5 nf1 nf2 (fun k hk => by have := hC5.lt; rcases hk with rfl | rfl <;> omega)
          have hX5 := hX3'.turned hT5 hgf
          have g6 := hX5.c6
          have g7 := hX5.c7
          have CQ := Lib.hid (put_act hD5 hr1 (by omega) (by omega) hok hsm)
          clear CP e6 e7
          go_wp2_with (first | (refine wpList_load_mid rfl 25 (.tmp 67) rfl wr.heap.size 1 rfl x.key.toList _ (ActAt.key hX5) Try.underlying25 rfl info_key ?_))
          refine CQ.out.mono ?_
          rintro e w6 ⟨rfl, hD6, hT6⟩
          have hC6 := hC5.beside hT6 nf3 nf4 (fun k hk => by have := hD6.lt; rcases hk with rfl | rfl <;> omega)
          clear CQ hC5 hD5
          go_wp2_with fail
          go_roundg (gk - 1)
          case measure => omega
          case rel => exact ⟨j + 1, n + 1, _, by omega, by go_num, by omega, by omega, hXl', hC6, hD6, HSM2.out⟩
        · have b0 : (x.kind == 0) = false := by simpa using k0
          clear k0
          go_wp2_with fail
          go_roundg (gk - 1)
          case measure => omega
          case rel => exact ⟨j + 1, n, X, by omega, by go_num, by omega, by omega, hXl, hC3, hD3, HSM2.out⟩
      · go_wp2_with fail
        go_ret
        exact ⟨rfl, hC3.since⟩
    · have hend : l.length ≤ j ∨ (j < l.length ∧ decide ((j : Int) < 200) = false) := by
        by_cases h : j < l.length
        · refine .inr ⟨h, ?_⟩
          rw [decide_eq_false_iff_not]
          omega
        · exact .inl (by omega)
      have HALL : Hid (∀ (i : Nat) (hi : i < l.length), i < 200 → largeR 600 (l[i]).who = false) := by
        intro i hi h2
        refine HSM.out _ (List.mem_take_iff_getElem.2 ⟨i, by omega, rfl⟩)
      clear HSM hgo
      have CF := Lib.hid (forget_p (ob := ob) hC (by omega))
      have hfl := forgetX_len ob X
      have HF2 : Hid (forgetX ob (forgetX ob X) = forgetX ob X) := Lib.hid forget_twice
      obtain ⟨Z, hZ⟩ : ∃ Z, forgetX ob X = Z := ⟨_, rfl⟩
      have HZ := Lib.hid hZ
      rw [hZ] at CF hfl HF2
      clear hZ
      have dn : ((Z.length : Int) != (X.length : Int) - ((X.length : Int) - (Z.length : Int))) = false := by rw [bne_eq_false_iff_eq]; omega
      rcases hend with hend | ⟨hend, hend2⟩
      all_goals
        go_wp2_with (first | (go_at_call 17; refine (len_p hC).mono ?_; rintro e wx ⟨rfl, rfl⟩))
        refine CF.out.mono ?_
        rintro e w5 ⟨rfl, hC5, hT5⟩
        have hD5 := hD.beside hT5 nf1 nf2 (fun k hk => by have := hC5.lt; rcases hk with rfl | rfl <;> omega)
        have CG := forget_p (ob := ob) hC5 (by omega)
        rw [HF2.out, Int.sub_self] at CG
        have DG := Lib.hid CG
        clear CF CG
        go_wp2_with (first | (go_at_call 17; refine (len_p hC5).mono ?_; rintro e wx ⟨rfl, rfl⟩))
        refine DG.out.mono ?_
        rintro e w6 ⟨rfl, hC6, hT6⟩
        have hD6 := hD5.beside hT6 nf1 nf2 (fun k hk => by have := hC6.lt; rcases hk with rfl | rfl <;> omega)
        clear DG hC5 hD5 hT5 hT6 hC hD hfl
        go_wp2_with fail
        obtain ⟨gk1, hgk1⟩ : ∃ g : Nat, g = gk := ⟨_, rfl⟩
        obtain ⟨j1, hj1⟩ : ∃ g : Nat, g = j := ⟨_, rfl⟩
        go_loopg [13] l.length (fun g2 i wr2 => ∃ (k n2 : Nat) (Xc Xd : List Ent), k + g2 = l.length ∧ i = .int .i64 k ∧ n2 ≤ 200 + k ∧ k ≤ 200 ∧ Xc = forgetX ob Xd ∧ CacheP w wr2 p mb room n2 Xc ∧ CacheP w wr2 p' mb' room n2 Xd)
        case atStart => exact ⟨0, n, Z, X, Nat.zero_add _, rfl, by omega, by omega, HZ.out.symm, hC6, hD6⟩
        case round =>
          clear hC6 hD6 HZ HF2 dn hj hn hj2 hXl hgk1 hj1
          obtain ⟨j, n2, Xc, Xd, hj, rfl, hn2, hj2, rfl, hC, hD⟩ := hrel
          by_cases hgo : j < l.length ∧ j < 200
          · obtain ⟨hjl, hj200⟩ := hgo
            have HLA := Lib.hid (HALL.out j hjl hj200)
            obtain ⟨b, o, rfl, hbl, hcell⟩ := HR.out j hjl
            obtain ⟨x, hxe⟩ : ∃ x, x = l[j] := ⟨_, rfl⟩
            rw [← hxe] at hcell
            have hok : cactOk w x := by rw [hxe]; exact HOK.out _ (List.getElem_mem hjl)
            have HXE := Lib.hid hxe
            have hrng : wr.rangeAt b (o + j * 8) x.cs.toList := act8_cells (fun i hi => (hC.since.cell (p := ⟨b, o + j * 8 + i, none⟩) hbl (fun h => h)).trans (hcell i hi))
            have hBz : Hid (Blk (wr.alloc (.cells zAct 36)) wr.heap.size 36 zAct) := Lib.hid (Blk.new wr _ _)
            have i0 : (0 : Int) ≤ (j : Int) := by omega
            have i1 : (j : Int) < (l.length : Int) := by omega
            have d200 : decide ((j : Int) < 200) = true := by rw [decide_eq_true_eq]; omega
            clear hxe hcell
            go_wp2_with (first
              | (refine wpList_load_mid rfl 36 (.tmp 103) rfl b (o + j * 8) rfl x.cs.toList _ hrng Try.underlying36 rfl info_cact ?_)
              | (refine wpList_store_blk rfl (.tmp 14) (.tmp 104) rfl rfl (cs' := x.cs) rfl hBz.out info_cact rfl (cact_one x) ?_; intro w3 hX3 hT3 hs3; have e3 : w3.cell? ⟨wr.heap.size, 3, none⟩ = some (.slice x.A x.who.length x.c) := ActAt.c3 hX3; have e1 : w3.cell? ⟨wr.heap.size, 1, none⟩ = some (.int .i64 x.ob) := ActAt.c1 hX3; have e7 : w3.cell? ⟨wr.heap.size, 7, none⟩ = some (.int .i64 x.t) := ActAt.c7 hX3)
              | (refine wpList_load_mid rfl 25 (.tmp 107) rfl wr.heap.size 1 rfl x.key.toList _ (ActAt.key hX3) Try.underlying25 rfl info_key ?_))
            have hlt := hC.lt
            have hT03 : Turned (fun k => wr.heap.size ≤ k) wr w3 := ((Turned.refl _ wr).alloc _).then_ hT3 (fun i hi h => by omega)
            have hC3 := hC.beside hT03 (by omega) (by omega) (fun k hk => by omega)
            have hX3' : ActAt w3 wr.heap.size x := hX3
            have hgp : wr.heap.size ≠ p := by omega
            have hgm : wr.heap.size ≠ mb := by omega
            have hgf : ¬ CFoot p mb wr.heap.size := fun h => by rcases h with h | h <;> omega
            have hD3 := hD.beside hT03 (by have := hD.lt; omega) (by have := hD.lt; omega) (fun k hk => by omega)
            have hgd : ¬ CFoot p' mb' wr.heap.size := fun h => by have := hD.lt; rcases h with h | h <;> omega
            clear hD
            clear hrng hBz hT3 hs3 hX3 hC hT03 hlt
            clear e3
            have hsm : Small x := by
              refine small_of ?_
              rw [HXE.out]
              exact HLA.out
            by_cases hob : x.ob = ob
            · have b1 : (x.ob == ob) = true := by simpa using hob
              have b2 : (x.ob != ob) = false := by simpa using hob
              have CG := fun t => get_act hC3 (by omega) hok hsm t
              have hqo : x.q.obj = ob := hob
              simp only [forget_hit_no hqo, forget_get] at CG
              have DG := Lib.hid CG
              clear CG hob hqo
              refine (DG.out _).mono ?_
              rintro e w5 ⟨rfl, hC5, hT5⟩
              have hD5 := hD3.beside hT5 nf1 nf2 (fun k hk => by have := hC5.lt; rcases hk with rfl | rfl <;> omega)
              have hX5 := hX3'.turned hT5 hgf
              have g1 := hX5.c1
              have g7 := hX5.c7
              have DH := Lib.hid (fun t => get_act hD5 (by omega) hok hsm t)
              clear DG e1 e7
              go_wp2_with (first | (refine wpList_load_mid rfl 25 (.tmp 117) rfl wr.heap.size 1 rfl x.key.toList _ (ActAt.key hX5) Try.underlying25 rfl info_key ?_))
              refine (DH.out _).mono ?_
              rintro e w6 ⟨rfl, hD6, hT6⟩
              have hC6 := hC5.beside hT6 nf3 nf4 (fun k hk => by have := hD6.lt; rcases hk with rfl | rfl <;> omega)
              have g1' := (hX5.turned hT6 hgd).c1
              clear DH hC5 hD5 g1
              go_wp2_with fail
              go_roundg (gk - 1)
              case measure => omega
              case rel => exact ⟨j + 1, n2 + 1, _, _, by omega, by go_num, by omega, by omega, rfl, hC6, hD6⟩
            · have b1 : (x.ob == ob) = false := by simpa using hob
              have b2 : (x.ob != ob) = true := by simpa using hob
              have CG := fun t => get_act hC3 (by omega) hok hsm t
              have hqo : x.q.obj ≠ ob := hob
              simp only [forget_hit hqo, forget_get] at CG
              have DG := Lib.hid CG
              clear CG hob hqo
              refine (DG.out _).mono ?_
              rintro e w5 ⟨rfl, hC5, hT5⟩
              have hD5 := hD3.beside hT5 nf1 nf2 (fun k hk => by have := hC5.lt; rcases hk with rfl | rfl <;> omega)
              have hX5 := hX3'.turned hT5 hgf
              have g1 := hX5.c1
              have g7 := hX5.c7
              have DH := Lib.hid (fun t => get_act hD5 (by omega) hok hsm t)
              clear DG e1 e7
              go_wp2_with (first | (refine wpList_load_mid rfl 25 (.tmp 117) rfl wr.heap.size 1 rfl x.key.toList _ (ActAt.key hX5) Try.underlying25 rfl info_key ?_))
              refine (DH.out _).mono ?_
              rintro e w6 ⟨rfl, hD6, hT6⟩
              have hC6 := hC5.beside hT6 nf3 nf4 (fun k hk => by have := hD6.lt; rcases hk with rfl | rfl <;> omega)
              have g1' := (hX5.turned hT6 hgd).c1
              clear DH hC5 hD5 g1
              go_wp2_with fail
              go_roundg (gk - 1)
              case measure => omega
              case rel => exact ⟨j + 1, n2 + 1, _, _, by omega, by go_num, by omega, by omega, rfl, hC6, hD6⟩
          · have hend : l.length ≤ j ∨ (j < l.length ∧ decide ((j : Int) < 200) = false) := by
              by_cases h : j < l.length
              · refine .inr ⟨h, ?_⟩
                rw [decide_eq_false_iff_not]
                omega
              · exact .inl (by omega)
            clear hgo
            rcases hend with hend | ⟨hend, hend2⟩
            all_goals
              go_wp2_with fail
              go_ret
              exact ⟨rfl, hC.since⟩
end Go.Proofs.Ytnicfiochnkjbaa
