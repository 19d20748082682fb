/- WordMakes: the walk. -/
import Derived.Test.YtnmibcmeaakljaaW13
import Derived.Deep.QuietTactic
import Derived.Deep.RegionHeld3
namespace Go.Proofs.Ytnmibcmeaakljaa
open Go.RowKit

set_option maxRecDepth 100000 in
set_option maxHeartbeats 4000000 in
theorem makes_walk (A1 A2 : Option Addr) (c1 c2 : Nat) (l : List Int) (m : List ByteArray) (i n : Int) (w : World) (hl : l.length ≤ maxLen) (hm : m.length ≤ maxLen)
    (hr1 : ReadsT atV w w.heap.size 1 A1 l) (hr2 : ReadsT Value.string w w.heap.size 1 A2 m) (hu : ∀ x ∈ l, u16 x) (hms : ∀ x ∈ m, x.size ≤ maxLen) (hi : i64 i) (hn : i64 n) :
    Calls Try.prog 4 #[.slice A1 l.length c1, .slice A2 m.length c2, .int .i64 i, .int .i64 n] w fun e w' => e = .returned (.bool true) ∧ Kept w w' := by
  have AW := Lib.hid (awake_any w)
  unfold maxLen at hl hm hms
  by_cases h1 : l.length ≤ 2048
  · have d1 : decide ((2048 : Int) < (l.length : Int)) = false := by rw [decide_eq_false_iff_not]; omega
    by_cases h2 : m.length ≤ 100
    · have d2 : decide ((100 : Int) < (m.length : Int)) = false := by rw [decide_eq_false_iff_not]; omega
      obtain ⟨i0, hi0, hz0, hz1, hz2⟩ := info_parts info_atom
      have R1 := Lib.hid hr1
      have R2 := Lib.hid hr2
      have HU := Lib.hid hu
      have HM := Lib.hid hms
      clear hr1 hr2 hu hms
      go_enter Try.func4, Try.ntmps4
      go_wp2_with fail
      refine AW.out.mono ?_
      rintro e w1 ⟨rfl, hK1⟩
      clear AW
      go_wp2_with fail
      go_loopg [32] m.length (fun gk k wr => ∃ q : Nat, q + gk = m.length ∧ k = .int .i64 (q : Int) ∧ (∀ x ∈ m.take q, x.size ≤ 4096) ∧ w1 = wr)
      case atStart => exact ⟨0, Nat.zero_add _, rfl, by simp, rfl⟩
      case round =>
        obtain ⟨q, hq, rfl, hsm, rfl⟩ := hrel
        have HS := Lib.hid hsm
        clear hsm
        by_cases hql : q < m.length
        · obtain ⟨b, o, rfl, _, hc⟩ := ReadsT.cell_one (fun _ => rfl) (R2.out.kept hK1) hql
          have hx := HM.out _ (List.getElem_mem hql)
          have HT := Lib.hid (List.take_succ_eq_append_getElem hql)
          generalize m[q] = x at hc HT hx
          have i0 : (0 : Int) ≤ (q : Int) := by omega
          have i1 : (q : Int) < (m.length : Int) := by omega
          by_cases hx2 : x.size ≤ 4096
          · have d3 : decide ((4096 : Int) < (x.size : Int)) = false := by rw [decide_eq_false_iff_not]; omega
            have HN : Hid (∀ y ∈ m.take (q + 1), y.size ≤ 4096) := by
              intro y hy
              rw [HT.out] at hy
              rcases List.mem_append.1 hy with hy | hy
              · exact HS.out y hy
              · rw [List.mem_singleton.1 hy]; exact hx2
            clear HT HS
            go_wp2_with fail
            go_roundg (gk - 1)
            case measure => omega
            case rel => exact ⟨q + 1, by omega, by go_num, HN.out, rfl⟩
          · have d3 : decide ((4096 : Int) < (x.size : Int)) = true := by rw [decide_eq_true_eq]; omega
            clear HT HS
            go_wp2_with fail
            go_ret
            exact ⟨rfl, hK1⟩
        · have hqm : q = m.length := by omega
          have i1 : ¬ (q : Int) < (m.length : Int) := by omega
          have HS2 : Hid (∀ y ∈ m, y.size ≤ 1000000) := by
            intro y hy
            have := HS.out y (by rw [hqm, List.take_length]; exact hy)
            omega
          clear HS HM hqm
          have hE := own_empty w1 w1.heap.size 32 1 (Nat.le_refl _)
          have hT0 : Turned (fun q => w1.heap.size ≤ q) w1 (w1.alloc (.cells #[] 32)) := (Turned.refl _ _).alloc _
          have r1 := (R1.out.kept hK1).below (fun q hq => hT0.block q hq (fun h => by omega))
          have hsz := hT0.size
          go_wp2_with (at_builtin; refine wpList_append_reads (V := atV) rfl (.tmp 42) (.tmp 43) 29 rfl w1.heap.size 32 i0 _ 1 2 Try.underlying29 hi0 hz0 hz1 hz2 rfl (by omega) (fun _ => rfl) atV_one _ _ _ rfl hE _ A1 _ c1 l rfl rfl r1 (by unfold maxLen; omega) (by omega) hsz ?_; intro v3 w3 O3 hg3; rw [Nat.zero_add, cellsOf_one (fun _ => rfl), List.nil_append] at O3; obtain ⟨A3, c3, rfl⟩ := own_slice O3)
          have hT3 := hT0.grown hg3 (fun q h hq => own_base hE h)
          have hK3 := hK1.then_ hT3 (fun q hq h => by have := hK1.size; omega)
          have C1 := Lib.hid (of_any A3 c3 l w3 (by omega) (ReadsT.of_one (V := atV) (fun _ => rfl) O3) HU.out)
          clear hE hT0 r1 hsz hg3 hT3 hK1
          refine C1.out.mono ?_
          rintro e w4 ⟨rfl, K4⟩
          have hK4 := hK3.to K4
          have O4 := own_turned O3 K4 (fun _ _ h => h)
          have C2 := Lib.hid (rof_any A1 c1 l w4 (by omega) (R1.out.kept hK4) HU.out)
          clear C1 O3 K4 hK3
          go_wp2_with fail
          refine C2.out.mono ?_
          rintro e w5 ⟨rfl, K5⟩
          have hK5 := hK4.to K5
          have O5 := own_turned O4 K5 (fun _ _ h => h)
          have SA := same_any A3 A1 c3 c1 _ _ l l w5 (by omega) (by omega) (ReadsT.of_one (V := atV) (fun _ => rfl) O5) (R1.out.kept hK5)
          rw [decide_eq_true rfl] at SA
          have DS := Lib.hid SA
          clear SA C2 O4 O5 K5 hK4
          go_wp2_with fail
          refine DS.out.mono ?_
          rintro e w6 ⟨rfl, n6, rfl⟩
          have hK6 := hK5.drewN n6
          generalize w5.drewN n6 = w6 at hK6 ⊢
          clear hK5 DS
          have C3 := cat_any A2 c2 m w6 (by omega) HS2.out (R2.out.kept hK6)
          have C4 := fun W (h : ReadsT Value.string W W.heap.size 1 A2 m) => rcat_any A2 c2 m W (by omega) HS2.out h
          generalize catR m = x at C3 C4
          obtain ⟨xa, xb⟩ := x
          have D3 := Lib.hid C3
          have D4 := Lib.hid C4
          clear C3 C4
          go_wp2_with fail
          refine D3.out.mono ?_
          rintro e w7 ⟨rfl, K7⟩
          have hK7 := hK6.to K7
          clear D3 K7 hK6
          go_wp2_with fail
          refine (D4.out _ (R2.out.kept hK7)).mono ?_
          rintro e w8 ⟨rfl, K8⟩
          have hK8 := hK7.to K8
          clear D4 K8 hK7
          go_wp2_with fail
          go_loopg [15] m.length (fun gk k wr => ∃ q : Nat, q + gk = m.length ∧ k = .int .i64 (q : Int) ∧ Kept w wr)
          case atStart => exact ⟨0, Nat.zero_add _, rfl, hK8⟩
          case round =>
            clear hK8 hql i1 hq hi0 hz0 hz1 hz2
            obtain ⟨q2, hq2, rfl, hK9⟩ := hrel
            by_cases hql2 : q2 + 1 < m.length
            · have RR := R2.out.kept hK9
              obtain ⟨b, o, rfl, hbl, hc1⟩ := ReadsT.cell_one (fun _ => rfl) RR (j := q2) (by omega)
              obtain ⟨b', o', hbb, _, hc2⟩ := ReadsT.cell_one (fun _ => rfl) RR hql2
              cases hbb
              have s1 := HS2.out _ (List.getElem_mem (show q2 < m.length by omega))
              have s2 := HS2.out _ (List.getElem_mem hql2)
              generalize m[q2] = t1 at hc1 s1
              generalize m[q2 + 1] = t2 at hc2 s2
              have C5 := fun W => swap_any t1 i n t2 W s1 s2 hi hn
              have C6 := fun W => rswap_any t1 i n t2 W s1 s2 hi hn
              generalize swapR t1 i n t2 = x at C5 C6
              obtain ⟨ya, yb⟩ := x
              have D5 := Lib.hid C5
              have D6 := Lib.hid C6
              have i0 : (0 : Int) ≤ (q2 : Int) := by omega
              have i2 : (q2 : Int) < (m.length : Int) := by omega
              have i3 : (q2 : Int) + 1 < (m.length : Int) := by omega
              have i4 : (0 : Int) ≤ (q2 : Int) + 1 := by omega
              have k1 : IntKind.i64.wrap ((q2 : Int) + 1) = (q2 : Int) + 1 := by rw [IntKind.wrap_i64]; omega
              have k2 : ((q2 : Int) + 1).toNat = q2 + 1 := by omega
              clear C5 C6 RR
              go_wp2_with fail
              go_quiet ((go_at_call 29; with_reducible exact Calls.quiet_of (D5.out _)))
              have g1 : (wr.drewN nq).cell? ⟨b, o + q2, none⟩ = some (.string t1) := hc1
              have g2 : (wr.drewN nq).cell? ⟨b, o + (q2 + 1), none⟩ = some (.string t2) := hc2
              have hK10 := hK9.drewN nq
              have hbw : b < (wr.drewN nq).heap.size := hbl
              generalize wr.drewN nq = wd at hK10 g1 g2 hbw ⊢
              clear hc1 hc2 hK9
              go_wp2_with fail
              go_region_held3 (fun W => W.cell? ⟨b, o + q2, none⟩ = some (.string t1) ∧ W.cell? ⟨b, o + (q2 + 1), none⟩ = some (.string t2))
                (first | exact ⟨g1, g2⟩ | exact ⟨(K11.cell (p := ⟨b, o + q2, none⟩) hbw (fun h => h)).trans g1, (K11.cell (p := ⟨b, o + (q2 + 1), none⟩) hbw (fun h => h)).trans g2⟩)
                (first | (go_at_call 30; refine (D6.out _).mono ?_; rintro e w11 ⟨rfl, K11⟩))
              all_goals
                have hK11 : Kept w w11 := hK10.drew.to K11
                clear hK10 K11
                go_wp2_with fail
                go_roundg (gk - 1)
                case measure => clear k1 k2; omega
                case rel => clear k1 k2; exact ⟨q2 + 1, by omega, by go_num, hK11⟩
            · have i3 : ¬ (q2 : Int) + 1 < (m.length : Int) := by omega
              go_wp2_with fail
              go_ret
              exact ⟨rfl, hK9⟩
    · have d2 : decide ((100 : Int) < (m.length : Int)) = true := by rw [decide_eq_true_eq]; omega
      clear hr1 hr2 hu hms
      go_enter Try.func4, Try.ntmps4
      go_wp2_with fail
      refine AW.out.mono ?_
      rintro e w1 ⟨rfl, hK1⟩
      go_wp2_with fail
      go_ret
      exact ⟨rfl, hK1⟩
  · have d1 : decide ((2048 : Int) < (l.length : Int)) = true := by rw [decide_eq_true_eq]; omega
    clear hr1 hr2 hu hms
    go_enter Try.func4, Try.ntmps4
    go_wp2_with fail
    refine AW.out.mono ?_
    rintro e w1 ⟨rfl, hK1⟩
    go_wp2_with fail
    go_ret
    exact ⟨rfl, hK1⟩
end Go.Proofs.Ytnmibcmeaakljaa
