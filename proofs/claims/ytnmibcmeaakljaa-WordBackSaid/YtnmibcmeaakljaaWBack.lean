/- WordBack: the walk. -/
import Derived.Test.YtnmibcmeaakljaaW13
import Derived.Deep.QuietTactic
namespace Go.Proofs.Ytnmibcmeaakljaa
open Go.RowKit

set_option maxRecDepth 100000 in
set_option maxHeartbeats 4000000 in
theorem back_walk (A : Option Addr) (c : Nat) (l : List Int) (s : ByteArray) (w : World) (hl : l.length ≤ maxLen) (hr : ReadsT atV w w.heap.size 1 A l) (hu : ∀ x ∈ l, u16 x) (hs : s.size ≤ maxLen) :
    Calls Try.prog 5 #[.slice A l.length c, .string s] w fun e w' => e = .returned (.bool true) ∧ Kept w w' := by
  have AW := Lib.hid (awake_any w)
  have hs2 := hs
  unfold maxLen at hl hs
  by_cases h1 : l.length ≤ 2048
  · have d1 : decide ((2048 : Int) < (l.length : Int)) = false := by rw [decide_eq_false_iff_not]; omega
    by_cases h2 : s.size ≤ 4096
    · have d2 : decide ((4096 : Int) < (s.size : Int)) = false := by rw [decide_eq_false_iff_not]; omega
      have HR := Lib.hid hr
      have HU := Lib.hid hu
      have hz := of_size l
      have hA := atoms_of hu
      have hL : lenR (ofR l) = (l.length : Int) := by unfold lenR; rw [hz]; omega
      have L := fun W => len_any (ofR l) W (by unfold maxLen; omega)
      rw [hL] at L
      have AT := fun W => atoms_any (ofR l) W (by omega)
      rw [hA] at AT
      have HG := Lib.hid (fun i (h : i < (atomsR (ofR l)).length) => at_get (s := ofR l) (i := i) h)
      have HA := Lib.hid hA
      have T := Lib.hid (fun W j (h : i64 j) => at_any (ofR l) j W (by unfold maxLen; omega) h)
      have DL := Lib.hid L
      have DA := Lib.hid AT
      have dn : ((l.length : Int) != (l.length : Int)) = false := by simp
      clear hr hu hz hA hL L AT
      generalize hV : ofR l = V at *
      go_enter Try.func5, Try.ntmps5
      go_wp2_with fail
      refine AW.out.mono ?_
      rintro e w1 ⟨rfl, hK1⟩
      clear AW
      have R1 := HR.out.kept hK1
      have OF := of_any A c l w1 (by omega) R1 HU.out
      rw [hV] at OF
      have DO := Lib.hid OF
      have HV := Lib.hid hV
      clear OF hV R1
      go_wp2_with fail
      refine DO.out.mono ?_
      rintro e w2 ⟨rfl, K2⟩
      have hK2 := hK1.to K2
      clear K2 hK1 DO
      go_wp2_with fail
      refine (DL.out _).mono ?_
      rintro e wx ⟨rfl, rfl⟩
      go_wp2_with fail
      refine (DA.out _).mono ?_
      rintro e w3 ⟨v3, rfl, O3, K3⟩
      obtain ⟨A3, c3, rfl⟩ := own_slice O3
      have hK3 := hK2.to K3
      have SA := same_any A3 A c3 c _ _ l l w3 (by omega) (by omega) (ReadsT.of_one (V := atV) (fun _ => rfl) O3) (HR.out.kept hK3)
      rw [decide_eq_true rfl] at SA
      have DS := Lib.hid SA
      clear SA O3 K3 hK2
      go_wp2_with fail
      refine DS.out.mono ?_
      rintro e w4 ⟨rfl, n4, rfl⟩
      have hK4 := hK3.drewN n4
      generalize w3.drewN n4 = w4 at hK4 ⊢
      clear hK3 DS
      go_wp2_with fail
      go_loopg [33] l.length (fun gk i wr => ∃ q : Nat, q + gk = l.length ∧ i = .int .i64 (q : Int) ∧ Kept w wr)
      case atStart => exact ⟨0, Nat.zero_add _, rfl, hK4⟩
      case round =>
        clear hK4
        obtain ⟨q, hq, rfl, hK5⟩ := hrel
        by_cases hql : q < l.length
        · have R5 := HR.out.kept hK5
          obtain ⟨b, o, rfl, _, hc⟩ := ReadsT.cell_one (fun _ => rfl) R5 hql
          have hg := HG.out q (by rw [HA.out]; exact hql)
          have hg2 : atR V q = l[q] := by
            rw [hg]
            simp only [HA.out]
          have T5 := fun W => T.out W q ⟨by omega, by omega⟩
          rw [hg2] at T5
          generalize l[q] = x at hc T5
          unfold atV at hc
          have D5 := Lib.hid T5
          have dx : (x != x) = false := by simp
          have i0 : (0 : Int) ≤ (q : Int) := by omega
          have i1 : (q : Int) < (l.length : Int) := by omega
          clear T5 hg hg2 R5
          go_wp2_with fail
          go_quiet ((go_at_call 17; with_reducible exact Calls.quiet_of (D5.out _)))
          go_wp2_with fail
          go_roundg (gk - 1)
          case measure => omega
          case rel => exact ⟨q + 1, by omega, by go_num, hK5.drewN _⟩
        · have i1 : ¬ (q : Int) < (l.length : Int) := by omega
          by_cases ho : s.size % 2 = 1
          · have d3 : ((s.size : Int) % 2 == 1) = true := by rw [beq_iff_eq]; omega
            go_wp2_with fail
            go_ret
            exact ⟨rfl, hK5⟩
          · have d3 : ((s.size : Int) % 2 == 1) = false := by rw [beq_eq_false_iff_ne]; omega
            have D6 := Lib.hid (fun W => atoms_any s W (by omega))
            have HO := Lib.hid (of_atoms (s := s) (by omega))
            have hla : (atomsR s).length ≤ 10000 := by rw [atoms_length]; omega
            clear ho
            go_wp2_with fail
            refine (D6.out _).mono ?_
            rintro e w6 ⟨v6, rfl, O6, K6⟩
            obtain ⟨A6, c6, rfl⟩ := own_slice O6
            have hK6 := hK5.to K6
            have OF := of_any A6 c6 (atomsR s) w6 (by omega) (ReadsT.of_one (V := atV) (fun _ => rfl) O6) (atoms_u16 s)
            rw [HO.out] at OF
            have D7 := Lib.hid OF
            clear OF O6 K6 hK5
            go_wp2_with fail
            refine D7.out.mono ?_
            rintro e w7 ⟨rfl, K7⟩
            have hK7 := hK6.to K7
            go_wp2_with fail
            go_ret
            exact ⟨rfl, hK7⟩
    · have d2 : decide ((4096 : Int) < (s.size : Int)) = true := by rw [decide_eq_true_eq]; omega
      clear hr hu
      go_enter Try.func5, Try.ntmps5
      go_wp2_with fail
      refine AW.out.mono ?_
      rintro e w1 ⟨rfl, hK1⟩
      go_wp2_with fail
      go_ret
      exact ⟨rfl, hK1⟩
  · have d1 : decide ((2048 : Int) < (l.length : Int)) = true := by rw [decide_eq_true_eq]; omega
    clear hr hu
    go_enter Try.func5, Try.ntmps5
    go_wp2_with fail
    refine AW.out.mono ?_
    rintro e w1 ⟨rfl, hK1⟩
    go_wp2_with fail
    go_ret
    exact ⟨rfl, hK1⟩
end Go.Proofs.Ytnmibcmeaakljaa
