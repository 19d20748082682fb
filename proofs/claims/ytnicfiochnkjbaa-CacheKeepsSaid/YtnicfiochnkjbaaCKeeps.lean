/- CacheKeeps: the walk. -/
import Derived.Test.YtnicfiochnkjbaaC21
import Derived.Test.YtnicfiochnkjbaaOpenC
namespace Go.Proofs.Ytnicfiochnkjbaa
open Go.RowKit

set_option maxRecDepth 100000 in
set_option maxHeartbeats 16000000 in
theorem keeps_walk (room : Int) (k : CKey) (a till : Int) (A : Option Addr) (cap : Nat) (l : List CAct) (w : World) (hroom : i64 room) (hk : ckeyOk w k) (_ha : i64 a) (ht : i64 till) (hl : l.length ≤ maxLen) (hr : ReadsT cactV w w.heap.size 8 A l) (hok : ∀ x ∈ l, cactOk w x) :
    Calls Try.prog 3 #[.int .i64 room, .agg k.cs, .int .i64 a, .int .i64 till, .slice A l.length cap] w fun e w' => e = .returned (.bool true) ∧ Kept w w' := by
  have HR := Lib.hid hr
  have HOK := Lib.hid hok
  have HK := Lib.hid hk
  have hT0 : Kept w (w.alloc (.cells k.cs 25)) := (Turned.refl _ w).alloc _
  have AW := Lib.hid (awake18_any (w.alloc (.cells k.cs 25)))
  have HB0 : Hid (Blk (w.alloc (.cells k.cs 25)) w.heap.size 25 k.cs) := Lib.hid (Blk.new w _ _)
  have HT0 := Lib.hid hT0
  have HS0 : Hid ((w.alloc (.cells k.cs 25)).heap.size = w.heap.size + 1) := Lib.hid (by simp)
  unfold maxLen at hl
  obtain ⟨ht1, ht2⟩ := ht
  clear hr hok hk hT0
  go_enter Try.func3, Try.ntmps3
  go_wp2_with fail
  refine AW.out.mono ?_
  rintro e w1 ⟨rfl, hK1⟩
  have hKw1 := HT0.out.to hK1
  have hB1 := HB0.out.turned hK1 (fun h => h)
  have hs1 : w.heap.size + 1 ≤ w1.heap.size := by have := hK1.size; have := HS0.out; omega
  clear AW HB0 HT0 HS0 hK1
  have N := Lib.hid (new_p hKw1 hroom)
  go_wp2_with fail
  refine N.out.mono ?_
  rintro e w2 h
  rcases h with ⟨h, rfl, rfl⟩ | ⟨⟨hr1, hr2⟩, p, mb, rfl, hC2, hK2, hp2, hm2⟩
  · clear N
    go_wp2_with fail
    go_ret
    exact ⟨rfl, hKw1⟩
  have hgp : w.heap.size ≠ p := by omega
  have hgm : w.heap.size ≠ mb := by omega
  have hgf : ¬ CFoot p mb w.heap.size := fun h => by rcases h with h | h <;> omega
  have hB2 := hB1.turned hK2 (fun h => h)
  have c2 : w2.cell? ⟨w.heap.size, 2, none⟩ = some (.slice k.A k.who.length k.c) := hB2.cell 2
  have CL := Lib.hid (large600_any k.A k.c _ k.who w2 HK.out.len HK.out.words (HK.out.reads.kept hC2.since))
  clear N hKw1 hB1 hs1 hK2 hp2 hm2
  go_wp2_with fail
  refine CL.out.mono ?_
  rintro e wx ⟨rfl, rfl⟩
  clear CL c2
  rcases hla : largeR 600 k.who with _ | _
  case true =>
    go_wp2_with fail
    go_ret
    exact ⟨rfl, hC2.since⟩
  obtain ⟨hlen, hwords⟩ := largeR_false hla
  clear hla
  by_cases hun : till ≤ -4611686018427387904
  · have du : decide (till ≤ -4611686018427387904) = true := by simpa using hun
    go_wp2_with fail
    go_ret
    exact ⟨rfl, hC2.since⟩
  have du : decide (till ≤ -4611686018427387904) = false := by simpa using hun
  have HW : Hid (∀ s ∈ k.who, s.size ≤ 1000000) := fun s hs => by have := hwords s hs; omega
  have hlen2 : k.who.length ≤ 1000 := by omega
  have CP := put_pk (ob := k.ob) (op := k.op) (ver := k.ver) (turn := k.turn) (a := a) (till := till) (c := k.c) hC2 hr1 (.inl (by omega)) (by simp) hlen2 HW.out (HK.out.reads.kept hC2.since) HK.out.ob HK.out.op
  clear hwords hlen
  obtain ⟨q, hqe⟩ : ∃ q : Qu, q = ⟨k.ob, k.op, k.who⟩ := ⟨_, rfl⟩
  have HWq : Hid (q.who = k.who) := Lib.hid (by rw [hqe])
  have HOq : Hid (q.obj = k.ob) := Lib.hid (by rw [hqe])
  have HQE := Lib.hid hqe
  rw [← hqe] at CP
  clear hqe
  rcases hpe : decide (putE k.who a = 0) with _ | _
  · have hpe' := of_decide_eq_false hpe
    have d0 : (putE k.who a != 0) = true := by simpa using hpe'
    have hXE : putXE room [] ⟨q, a, k.ver, k.turn, till⟩ = [] := by unfold putXE; rw [if_neg]; simp only [HWq.out]; exact hpe'
    rw [hXE] at CP
    have DP := Lib.hid CP
    clear CP hXE hpe hpe'
    go_wp2_with (first | (refine wpList_load_blk rfl (.tmp 6) rfl rfl hB2 Try.underlying25 rfl info_key ?_))
    refine DP.out.mono ?_
    rintro e w3 ⟨rfl, hC3, hT3⟩
    clear DP hB2 hC2
    obtain ⟨Z, hZ⟩ : ∃ Z : List Ent, Z = [] := ⟨_, rfl⟩
    rw [← hZ] at hC3
    have dz : ((Z.length : Int) == 0) = true := by rw [hZ]; rfl
    clear hZ
    go_wp2_with (first | (go_at_call 17; refine (len_p hC3).mono ?_; rintro e wx ⟨rfl, rfl⟩))
    go_ret
    exact ⟨rfl, hC3.since⟩
  have hpe' := of_decide_eq_true hpe
  have d0 : (putE k.who a != 0) = false := by simpa using hpe'
  have hsr : setR k.who = true := by
    rcases hsr : setR k.who with _ | _
    · unfold putE at hpe'; rw [hsr] at hpe'; cases hpe'
    · rfl
  obtain ⟨E, hE⟩ : ∃ E : Ent, E = ⟨q, a, k.ver, k.turn, till⟩ := ⟨_, rfl⟩
  have HE1 : Hid (E.told = a) := Lib.hid (by rw [hE])
  have HE2 : Hid (E.ver = k.ver) := Lib.hid (by rw [hE])
  have HE3 : Hid (E.turn = k.turn) := Lib.hid (by rw [hE])
  have HE4 : Hid (E.till = till) := Lib.hid (by rw [hE])
  have HE5 : Hid (findX q [E] = some E) := by
    have h : findX E.q [E] = some E := find_one
    rw [hE] at h ⊢
    exact h
  have hXE : putXE room [] E = [E] := by
    unfold putXE
    rw [if_pos, put_first hr1]
    rw [hE]
    simp only [HWq.out]
    exact hpe'
  rw [← hE, hXE] at CP
  have DP := Lib.hid CP
  have HSR := Lib.hid hsr
  clear CP hXE hpe hpe' hE hsr
  go_wp2_with (first | (refine wpList_load_blk rfl (.tmp 6) rfl rfl hB2 Try.underlying25 rfl info_key ?_))
  refine DP.out.mono ?_
  rintro e w3 ⟨rfl, hC3, hT3⟩
  have hB3 := hB2.turned hT3 hgf
  clear DP hB2 hC2 hT3
  go_wp2_with fail
  go_loopg [12, 13] l.length (fun gk sn i wr => ∃ (j m n : Nat) (X : List Ent), j + gk = l.length ∧ sn = .int .i64 m ∧ i = .int .i64 j ∧ findX q X = some E ∧ X.length ≤ m + 1 ∧ (m : Int) ≤ room - 1 ∧ CacheP w wr p mb room n X ∧ Blk wr w.heap.size 25 k.cs)
  case atStart => exact ⟨0, 0, 1, [E], Nat.zero_add _, rfl, rfl, HE5.out, by simp, by simp; omega, hC3, hB3⟩
  case round =>
    clear hC3 hB3 HE5
    obtain ⟨j, m, n, X, hj, rfl, rfl, hF, hXl, hm, hC, hB⟩ := hrel
    have HF := Lib.hid hF
    clear hF
    by_cases hgo : j < l.length ∧ (m : Int) < room - 1
    · obtain ⟨hjl, hmr⟩ := hgo
      obtain ⟨b, o, rfl, hbl, hcell⟩ := HR.out j hjl
      obtain ⟨x, hxe⟩ : ∃ x, x = l[j] := ⟨_, rfl⟩
      rw [← hxe] at hcell
      have hok : cactOk w x := by rw [hxe]; exact HOK.out _ (List.getElem_mem hjl)
      have HXE := Lib.hid hxe
      have hrng : wr.rangeAt b (o + j * 8) x.cs.toList := act8_cells (fun i hi => (hC.since.cell (p := ⟨b, o + j * 8 + i, none⟩) hbl (fun h => h)).trans (hcell i hi))
      have hBz : Hid (Blk (wr.alloc (.cells zAct 36)) wr.heap.size 36 zAct) := Lib.hid (Blk.new wr _ _)
      have i0 : (0 : Int) ≤ (j : Int) := by omega
      have i1 : (j : Int) < (l.length : Int) := by omega
      have dm : decide ((m : Int) < room - 1) = true := by rw [decide_eq_true_eq]; omega
      clear hxe hcell
      go_wp2_with (first
        | (refine wpList_load_mid rfl 36 (.tmp 57) rfl b (o + j * 8) rfl x.cs.toList _ hrng Try.underlying36 rfl info_cact ?_)
        | (refine wpList_store_blk rfl (.tmp 14) (.tmp 58) rfl rfl (cs' := x.cs) rfl hBz.out info_cact rfl (cact_one x) ?_; intro w3 hX3 hT3 hs3; have e3 : w3.cell? ⟨wr.heap.size, 3, none⟩ = some (.slice x.A x.who.length x.c) := ActAt.c3 hX3))
      have hlt := hC.lt
      have hT03 : Turned (fun k => wr.heap.size ≤ k) wr w3 := ((Turned.refl _ wr).alloc _).then_ hT3 (fun i hi h => by omega)
      have hC3 := hC.beside hT03 (by omega) (by omega) (fun k hk => by omega)
      have hX3' : ActAt w3 wr.heap.size x := hX3
      have hB3 := hB.turned hT03 (by have := hB.lt; omega)
      have hgx : ¬ CFoot p mb wr.heap.size := fun h => by have := hC.lt; rcases h with h | h <;> omega
      clear hB
      clear hrng hBz hT3 hs3 hX3 hC hT03 hlt
      refine (large_act hC3.since hok).mono ?_
      rintro e wx ⟨rfl, rfl⟩
      clear e3
      rcases hla : largeR 600 x.who with _ | _
      · have hsm := small_of hla
        have e0 := hX3'.c0
        have e1 := hX3'.c1
        have kc : w3.cell? ⟨w.heap.size, 0, none⟩ = some (.int .i64 k.ob) := hB3.cell 0
        clear hla
        by_cases hob : x.ob = k.ob
        · have bo : (x.ob == k.ob) = true := by simpa using hob
          clear hob
          go_wp2_with fail
          go_roundg (gk - 1)
          case measure => omega
          case rel => exact ⟨j + 1, m, n, X, by omega, rfl, by go_num, HF.out, hXl, hm, hC3, hB3⟩
        · have bo : (x.ob == k.ob) = false := by simpa using hob
          have HNQ : Hid (x.q ≠ q) := fun e => hob (by have h := HOq.out; rw [← e] at h; exact h)
          have HNO : Hid (q.obj ≠ x.ob) := fun e => hob (by rw [HOq.out] at e; exact e.symm)
          clear hob
          by_cases k0 : x.kind = 0
          · have b0 : (x.kind == 0) = true := by simpa using k0
            have b1 : (x.kind == 1) = false := by rw [beq_eq_false_iff_ne]; omega
            have b2 : (x.kind == 2) = false := by rw [beq_eq_false_iff_ne]; omega
            have e2 := hX3'.c2
            have e3 := hX3'.c3
            have e4 := hX3'.c4
            have e5 := hX3'.c5
            have e6 := hX3'.c6
            have e7 := hX3'.c7
            have CP := put_actk hC3 hr1 (by omega) (by omega) hok hsm
            clear k0
            rcases hpe : decide (putE x.who x.a = 0) with _ | _
            · have hpe' := of_decide_eq_false hpe
              have dp : (putE x.who x.a == 0) = false := by simpa using hpe'
              have hXE : putXE room X x.ent = X := by unfold putXE; rw [if_neg]; exact hpe'
              rw [hXE] at CP
              have DP := Lib.hid CP
              clear CP hXE hpe hpe'
              go_wp2_with fail
              refine DP.out.mono ?_
              rintro e w5 ⟨rfl, hC5, hT5⟩
              have g0 := (hX3'.turned hT5 hgx).c0
              have hB5 := hB3.turned hT5 hgf
              clear DP
              go_wp2_with fail
              go_roundg (gk - 1)
              case measure => omega
              case rel => exact ⟨j + 1, m, n + 1, X, by omega, rfl, by go_num, HF.out, hXl, hm, hC5, hB5⟩
            · have hpe' := of_decide_eq_true hpe
              have dp : (putE x.who x.a == 0) = true := by simpa using hpe'
              have hXE : putXE room X x.ent = putX room X x.ent := by unfold putXE; rw [if_pos]; exact hpe'
              have hkp := keep_put (x := x.ent) HF.out HNQ.out (room := room) (by omega)
              obtain ⟨hF5, hl5⟩ := hkp
              rw [hXE] at CP
              have DP := Lib.hid CP
              have HF5 := Lib.hid hF5
              clear CP hXE hpe hpe' hF5
              generalize putX room X x.ent = X' at DP HF5 hl5
              go_wp2_with fail
              refine DP.out.mono ?_
              rintro e w5 ⟨rfl, hC5, hT5⟩
              have g0 := (hX3'.turned hT5 hgx).c0
              have hB5 := hB3.turned hT5 hgf
              clear DP
              go_wp2_with fail
              go_roundg (gk - 1)
              case measure => omega
              case rel => exact ⟨j + 1, m + 1, n + 1, X', by omega, by go_num, by go_num, HF5.out, by omega, by omega, hC5, hB5⟩
          · have b0 : (x.kind == 0) = false := by simpa using k0
            by_cases k1 : x.kind = 1
            · have b1 : (x.kind == 1) = true := by simpa using k1
              have b2 : (x.kind == 2) = false := by rw [beq_eq_false_iff_ne]; omega
              have e7 := hX3'.c7
              have CG := Lib.hid (get_actk hC3 hok hsm x.t)
              have HF5 := Lib.hid (keep_get (ver := x.ver) (turn := x.turn) (t := x.t) HF.out HNQ.out)
              have hgl := getX_len (q := x.q) (ver := x.ver) (turn := x.turn) (t := x.t) hC3.keys
              clear k0 k1
              generalize getX x.q x.ver x.turn x.t X = X' at CG HF5 hgl
              go_wp2_with (first | (refine wpList_load_mid rfl 25 (.tmp 89) rfl wr.heap.size 1 rfl x.key.toList _ (ActAt.key hX3') Try.underlying25 rfl info_key ?_))
              refine CG.out.mono ?_
              rintro e w5 ⟨rfl, hC5, hT5⟩
              have g0 := (hX3'.turned hT5 hgx).c0
              have hB5 := hB3.turned hT5 hgf
              clear CG
              go_wp2_with fail
              go_roundg (gk - 1)
              case measure => omega
              case rel => exact ⟨j + 1, m, n + 1, X', by omega, rfl, by go_num, HF5.out, by omega, hm, hC5, hB5⟩
            · have b1 : (x.kind == 1) = false := by simpa using k1
              by_cases k2 : x.kind = 2
              · have b2 : (x.kind == 2) = true := by simpa using k2
                have CF := Lib.hid (forget_p (ob := x.ob) hC3 (by omega))
                have HF5 := Lib.hid (keep_forget HF.out HNO.out)
                have hfl := forgetX_len x.ob X
                clear k0 k1 k2
                generalize forgetX x.ob X = X' at CF HF5 hfl
                go_wp2_with fail
                refine CF.out.mono ?_
                rintro e w5 ⟨rfl, hC5, hT5⟩
                have hB5 := hB3.turned hT5 hgf
                clear CF
                go_wp2_with fail
                go_roundg (gk - 1)
                case measure => omega
                case rel => exact ⟨j + 1, m, n, X', by omega, rfl, by go_num, HF5.out, by omega, hm, hC5, hB5⟩
              · have b2 : (x.kind == 2) = false := by simpa using k2
                clear k0 k1 k2
                go_wp2_with fail
                go_roundg (gk - 1)
                case measure => omega
                case rel => exact ⟨j + 1, m, n, X, by omega, rfl, by go_num, HF.out, hXl, hm, hC3, hB3⟩
      · go_wp2_with fail
        go_ret
        exact ⟨rfl, hC3.since⟩
    · have hend : l.length ≤ j ∨ (j < l.length ∧ decide ((m : Int) < room - 1) = false) := by
        by_cases h : j < l.length
        · refine .inr ⟨h, ?_⟩
          rw [decide_eq_false_iff_not]
          omega
        · exact .inl (by omega)
      clear hgo
      have hv1 : till - 1 < E.till := by rw [HE4.out]; omega
      have hv2 : E.till ≤ till := by rw [HE4.out]; omega
      have hsq : setR q.who = true := by rw [HWq.out]; exact HSR.out
      have HH1 := keep_hit (t := till - 1) hsq HF.out HE2.out HE3.out hv1
      have HA1 := keep_after (t := till - 1) hsq HF.out HE2.out HE3.out hv1
      have HH2 := keep_over (ver := k.ver) (turn := k.turn) HA1 hv2
      have CG := get_pk (ob := k.ob) (op := k.op) (ver := k.ver) (turn := k.turn) (t := till - 1) (c := k.c) hC hlen2 HW.out (HK.out.reads.kept hC.since) HK.out.ob HK.out.op
      rw [← HQE.out, HH1] at CG
      have hto : toldR (some E) = a := HE1.out
      rw [hto] at CG
      have DG := Lib.hid CG
      have HH2' := Lib.hid HH2
      clear CG HH1 HA1 HH2 hv1 hv2 hsq hto
      generalize getX q k.ver k.turn (till - 1) X = X' at DG HH2'
      have daa : (a == a) = true := by simp
      rcases hend with hend | ⟨hend, hend2⟩
      all_goals
        go_wp2_with (first | (refine wpList_load_blk rfl (.tmp 6) rfl rfl hB Try.underlying25 rfl info_key ?_))
        refine DG.out.mono ?_
        rintro e w5 ⟨rfl, hC5, hT5⟩
        have hB5 := hB.turned hT5 hgf
        have CQ := get_pk (ob := k.ob) (op := k.op) (ver := k.ver) (turn := k.turn) (t := till) (c := k.c) hC5 hlen2 HW.out (HK.out.reads.kept hC5.since) HK.out.ob HK.out.op
        rw [← HQE.out, HH2'.out] at CQ
        have DQ := Lib.hid CQ
        clear DG CQ hC hB
        go_wp2_with (first | (refine wpList_load_blk rfl (.tmp 6) rfl rfl hB5 Try.underlying25 rfl info_key ?_))
        refine DQ.out.mono ?_
        rintro e w6 ⟨rfl, hC6, hT6⟩
        clear DQ
        go_wp2_with fail
        go_ret
        exact ⟨rfl, hC6.since⟩
end Go.Proofs.Ytnicfiochnkjbaa
