/- Sets: May, both. -/
import Derived.Test.YtnicfiochnkjbaaC7
import Derived.Test.YtnicfiochnkjbaaHeld
namespace Go.Proofs.Ytnicfiochnkjbaa
open Go.RowKit

set_option maxRecDepth 100000 in
set_option maxHeartbeats 2000000 in
theorem set_any (A : Option Addr) (c : Nat) (l : List ByteArray) (w : World) (hl : l.length ≤ 1000) (hs : ∀ s ∈ l, s.size ≤ 1000000) (hr : ReadsT Value.string w w.heap.size 1 A l) :
    Calls Try.prog 59 #[.slice A l.length c] w fun e w' => e = .returned (.bool (setR l)) ∧ ∃ n, w' = w.drewN n := by
  have HE : Hid (setR l = (decide (1 ≤ l.length) && (decide (l.length ≤ 16) && goods l l.length))) := Lib.hid rfl
  have HS := Lib.hid hs
  have HR := Lib.hid hr
  clear hs hr
  by_cases h1 : 1 ≤ l.length
  · have d1 : decide ((l.length : Int) < 1) = false := by rw [decide_eq_false_iff_not]; omega
    by_cases h2 : l.length ≤ 16
    · have d2 : decide ((16 : Int) < (l.length : Int)) = false := by rw [decide_eq_false_iff_not]; omega
      have HE2 : Hid (setR l = goods l l.length) := by
        show setR l = _
        rw [HE.out, decide_eq_true h1, decide_eq_true h2]
        rfl
      clear HE
      go_enter Try.func59, Try.ntmps59
      go_wp2_with fail
      go_loopg [15] l.length (fun gk i wr => ∃ j : Nat, j + gk = l.length ∧ i = .int .i64 j ∧ goods l j = true ∧ ∃ n, wr = w.drewN n)
      case atStart => exact ⟨0, Nat.zero_add _, rfl, rfl, ⟨0, rfl⟩⟩
      case round =>
        obtain ⟨j, hj, rfl, hq, n, rfl⟩ := hrel
        have HQ := Lib.hid hq
        clear hq
        by_cases hjl : j < l.length
        · obtain ⟨b, o, rfl, _, hc⟩ := ReadsT.cell_one (fun _ => rfl) HR.out hjl
          have hx := HS.out _ (List.getElem_mem hjl)
          have HG : Hid (goodAt l j = (mayR l[j] && (decide (j = 0) || lessR (wordAt l (j - 1)) l[j]))) := by
            show goodAt l j = _
            unfold goodAt
            rw [wordAt_eq hjl]
          have i0 : (0 : Int) ≤ (j : Int) := by omega
          have i1 : (j : Int) < (l.length : Int) := by omega
          by_cases hj0 : j = 0
          · rw [decide_eq_true hj0, Bool.true_or] at HG
            have dj : decide ((0 : Int) < (j : Int)) = false := by rw [decide_eq_false_iff_not]; omega
            have djn : decide (0 < j) = false := by rw [decide_eq_false_iff_not]; omega
            have djm : ¬ 0 < j := by omega
            generalize l[j] = x at hc HG hx
            have CM := fun W => may_any x W hx
            rcases hm : mayR x with _ | _
            · rw [hm] at CM HG
              have HN : Hid (setR l = false) := by
                show setR l = false
                rw [HE2.out]
                exact goods_false hjl (by rw [HG.out]; rfl)
              have D1 := Lib.hid CM
              clear CM hm HG HQ hj0
              go_wp2_with fail
              refine (D1.out _).mono ?_
              rintro e w5 ⟨rfl, n5, rfl⟩
              go_wp2_with fail
              go_ret
              exact ⟨by rw [HN.out]; rfl, _, rfl⟩
            · rw [hm] at CM HG
              have HN := Lib.hid (goods_succ HQ.out (by rw [HG.out]; rfl))
              have D1 := Lib.hid CM
              clear CM hm HG HQ hj0
              go_wp2_with fail
              refine (D1.out _).mono ?_
              rintro e w5 ⟨rfl, n5, rfl⟩
              go_wp2_with fail
              go_roundg (gk - 1)
              case measure => omega
              case rel => exact ⟨j + 1, by omega, by go_num, HN.out, _, rfl⟩
          · obtain ⟨b', o', hbb, _, hc2⟩ := ReadsT.cell_one (fun _ => rfl) HR.out (j := j - 1) (by omega)
            cases hbb
            rw [wordAt_eq (show j - 1 < l.length by omega), decide_eq_false hj0, Bool.false_or] at HG
            generalize l[j] = x at hc HG hx
            generalize l[j - 1] = y at hc2 HG
            have CM := fun W => may_any x W hx
            have CL := fun W => less_any y x W
            obtain ⟨p, rfl⟩ : ∃ p, j = p + 1 := ⟨j - 1, by omega⟩
            rw [Nat.add_sub_cancel] at hc2
            have dj : decide ((0 : Int) < ((p + 1 : Nat) : Int)) = true := by rw [decide_eq_true_eq]; omega
            have i2 : (0 : Int) ≤ (p : Int) := by omega
            have i3 : (p : Int) < (l.length : Int) := by omega
            rcases hm : mayR x with _ | _
            · rw [hm] at CM HG
              have HN : Hid (setR l = false) := by
                show setR l = false
                rw [HE2.out]
                exact goods_false hjl (by rw [HG.out]; rfl)
              have D1 := Lib.hid CM
              clear CM CL hm HG HQ hj0
              go_wp2_with fail
              refine (D1.out _).mono ?_
              rintro e w5 ⟨rfl, n5, rfl⟩
              go_wp2_with fail
              go_ret
              exact ⟨by rw [HN.out]; rfl, _, rfl⟩
            · rw [hm] at CM HG
              rcases hm2 : lessR y x with _ | _
              · rw [hm2] at CL HG
                have HN : Hid (setR l = false) := by
                  show setR l = false
                  rw [HE2.out]
                  exact goods_false hjl (by rw [HG.out]; rfl)
                have D1 := Lib.hid CM
                have D2 := Lib.hid CL
                clear CM CL hm hm2 HG HQ hj0
                go_wp2_with fail
                refine (D1.out _).mono ?_
                rintro e w5 ⟨rfl, n5, rfl⟩
                go_wp2_with fail
                refine (D2.out _).mono ?_
                rintro e w6 ⟨rfl, rfl⟩
                go_wp2_with fail
                go_ret
                exact ⟨by rw [HN.out]; rfl, _, rfl⟩
              · rw [hm2] at CL HG
                have HN := Lib.hid (goods_succ HQ.out (by rw [HG.out]; rfl))
                have D1 := Lib.hid CM
                have D2 := Lib.hid CL
                clear CM CL hm hm2 HG HQ hj0
                go_wp2_with fail
                refine (D1.out _).mono ?_
                rintro e w5 ⟨rfl, n5, rfl⟩
                go_wp2_with fail
                refine (D2.out _).mono ?_
                rintro e w6 ⟨rfl, rfl⟩
                go_wp2_with fail
                go_roundg (gk - 1)
                case measure => omega
                case rel => exact ⟨p + 1 + 1, by omega, by go_num, HN.out, _, rfl⟩
        · have hjj : j = l.length := by omega
          have i1 : ¬ (j : Int) < (l.length : Int) := by omega
          have HN : Hid (setR l = true) := by
            show setR l = true
            rw [HE2.out, ← hjj]
            exact HQ.out
          clear HQ hjj
          go_wp2_with fail
          go_ret
          exact ⟨by rw [HN.out]; rfl, n, rfl⟩
    · have d2 : decide ((16 : Int) < (l.length : Int)) = true := by rw [decide_eq_true_eq]; omega
      have HN : Hid (setR l = false) := by
        show setR l = _
        rw [HE.out, decide_eq_true h1, decide_eq_false h2]
        rfl
      clear HE
      go_enter Try.func59, Try.ntmps59
      go_wp2_with fail
      go_ret
      exact ⟨by rw [HN.out]; rfl, 0, rfl⟩
  · have d1 : decide ((l.length : Int) < 1) = true := by rw [decide_eq_true_eq]; omega
    have HN : Hid (setR l = false) := by
      show setR l = _
      rw [HE.out, decide_eq_false h1]
      rfl
    clear HE
    go_enter Try.func59, Try.ntmps59
    go_wp2_with fail
    go_ret
    exact ⟨by rw [HN.out]; rfl, 0, rfl⟩

set_option maxRecDepth 100000 in
set_option maxHeartbeats 2000000 in
theorem rset_any (A : Option Addr) (c : Nat) (l : List ByteArray) (w : World) (hl : l.length ≤ 1000) (hs : ∀ s ∈ l, s.size ≤ 1000000) (hr : ReadsT Value.string w w.heap.size 1 A l) :
    Calls Try.prog 47 #[.slice A l.length c] w fun e w' => e = .returned (.bool (setR l)) ∧ Kept w w' := by
  have HE : Hid (setR l = (decide (1 ≤ l.length) && (decide (l.length ≤ 16) && goods l l.length))) := Lib.hid rfl
  have HS := Lib.hid hs
  have HR := Lib.hid hr
  clear hs hr
  by_cases h1 : 1 ≤ l.length
  · have d1 : decide ((l.length : Int) < 1) = false := by rw [decide_eq_false_iff_not]; omega
    by_cases h2 : l.length ≤ 16
    · have d2 : decide ((16 : Int) < (l.length : Int)) = false := by rw [decide_eq_false_iff_not]; omega
      have HE2 : Hid (setR l = goods l l.length) := by
        show setR l = _
        rw [HE.out, decide_eq_true h1, decide_eq_true h2]
        rfl
      clear HE
      go_enter Try.func47, Try.ntmps47
      go_wp2_with fail
      go_loopg [3] l.length (fun gk i wr => ∃ j : Nat, j + gk = l.length ∧ i = .int .i64 j ∧ goods l j = true ∧ Kept w wr)
      case atStart => exact ⟨0, Nat.zero_add _, rfl, rfl, Turned.refl _ _⟩
      case round =>
        obtain ⟨j, hj, rfl, hq, hK⟩ := hrel
        have HQ := Lib.hid hq
        clear hq
        by_cases hjl : j < l.length
        · have RR := HR.out.kept hK
          obtain ⟨b, o, rfl, hbl, hc⟩ := ReadsT.cell_one (fun _ => rfl) RR hjl
          have hx := HS.out _ (List.getElem_mem hjl)
          have HG : Hid (goodAt l j = (mayR l[j] && (decide (j = 0) || lessR (wordAt l (j - 1)) l[j]))) := by
            show goodAt l j = _
            unfold goodAt
            rw [wordAt_eq hjl]
          have i0 : (0 : Int) ≤ (j : Int) := by omega
          have i1 : (j : Int) < (l.length : Int) := by omega
          rcases hm : mayR l[j] with _ | _
          · rw [hm] at HG
            have HN : Hid (setR l = false) := by
              show setR l = false
              rw [HE2.out]
              exact goods_false hjl (by rw [HG.out]; rfl)
            have CM := fun W => rmay_any l[j] W hx
            rw [hm] at CM
            clear HG hm
            generalize l[j] = x at hc hx CM
            have D1 := Lib.hid CM
            clear CM RR HQ
            go_wp2_with fail
            refine wp_region_held_drew (S := fun W => W.cell? ⟨b, o + j, none⟩ = some (.string x)) (by kernel_rfl) hc (fun hHeld => ?_)
            refine held_take 0 18 (v := ?_) ⟨_, rfl, rfl, by rfl, ?_⟩ (by kernel_rfl) (by kernel_rfl) (by kernel_rfl) (fun _ _ _ h => h) hHeld ?_
            rotate_left
            · (intro w hSw; (try dsimp only at hSw); go_simp; try with_reducible rfl)
            simp only [Act.put, List.setIfInBounds_toArray, List.set_cons_zero, List.set_cons_succ]
            refine held_take 1 19 (v := ?_) ⟨_, rfl, rfl, by rfl, ?_⟩ (by kernel_rfl) (by kernel_rfl) (by kernel_rfl) (fun _ _ _ h => h) hHeld ?_
            rotate_left
            · (intro w hSw; (try dsimp only at hSw); go_simp; try with_reducible rfl)
            simp only [Act.put, List.setIfInBounds_toArray, List.set_cons_zero, List.set_cons_succ]
            refine held_take 2 20 (v := ?_) ⟨_, rfl, rfl, by rfl, ?_⟩ (by kernel_rfl) (by kernel_rfl) (by kernel_rfl) (fun _ _ _ h => h) hHeld ?_
            rotate_left
            · (intro w hSw; (try dsimp only at hSw); go_simp; try with_reducible rfl)
            simp only [Act.put, List.setIfInBounds_toArray, List.set_cons_zero, List.set_cons_succ]
            refine held_take 3 21 (v := ?_) ⟨_, rfl, rfl, by rfl, ?_⟩ (by kernel_rfl) (by kernel_rfl) (by kernel_rfl) (fun _ _ _ h => h) hHeld ?_
            rotate_left
            · (intro w hSw; (try dsimp only at hSw); go_simp; try with_reducible rfl)
            simp only [Act.put, List.setIfInBounds_toArray, List.set_cons_zero, List.set_cons_succ]
            refine wpAnyH_ready (rs := [4]) (by kernel_rfl) (by simp) ?_
            refine AllReadyH.cons (o := _) rfl (fun K hK => ?_) AllReadyH.nil
            go_simp
            go_at_call 60
            refine (D1.out _).mono ?_
            rintro e w5 ⟨rfl, K5⟩
            go_wp2_with fail
            refine hK.out _ _ (by (try dsimp only); exact (K5.cell (p := ⟨b, o + j, none⟩) hbl (fun h => h)).trans hc) (fun hHeld => ?_)
            clear hK K
            refine held_take 5 23 (v := ?_) ⟨_, rfl, rfl, by rfl, ?_⟩ (by kernel_rfl) (by kernel_rfl) (by kernel_rfl) (fun _ _ _ h => h) hHeld ?_
            rotate_left
            · (intro w hSw; (try dsimp only at hSw); go_simp; try with_reducible rfl)
            simp only [Act.put, List.setIfInBounds_toArray, List.set_cons_zero, List.set_cons_succ]
            refine held_take 6 24 (v := ?_) ⟨_, rfl, rfl, by rfl, ?_⟩ (by kernel_rfl) (by kernel_rfl) (by kernel_rfl) (fun _ _ _ h => h) hHeld ?_
            rotate_left
            · (intro w hSw; (try dsimp only at hSw); go_simp; try with_reducible rfl)
            simp only [Act.put, List.setIfInBounds_toArray, List.set_cons_zero, List.set_cons_succ]
            refine held_skip 7 25 ⟨_, rfl, rfl, by rfl⟩ (by kernel_rfl) (by kernel_rfl) (by kernel_rfl) (fun _ _ _ h => h) hHeld ?_
            simp only [Act.put, List.setIfInBounds_toArray, List.set_cons_zero, List.set_cons_succ]
            refine held_skip 8 26 ⟨_, rfl, rfl, by rfl⟩ (by kernel_rfl) (by kernel_rfl) (by kernel_rfl) (fun _ _ _ h => h) hHeld ?_
            simp only [Act.put, List.setIfInBounds_toArray, List.set_cons_zero, List.set_cons_succ]
            refine held_skip 9 27 ⟨_, rfl, rfl, by rfl⟩ (by kernel_rfl) (by kernel_rfl) (by kernel_rfl) (fun _ _ _ h => h) hHeld ?_
            simp only [Act.put, List.setIfInBounds_toArray, List.set_cons_zero, List.set_cons_succ]
            refine held_skip 10 28 ⟨_, rfl, rfl, by rfl⟩ (by kernel_rfl) (by kernel_rfl) (by kernel_rfl) (fun _ _ _ h => h) hHeld ?_
            simp only [Act.put, List.setIfInBounds_toArray, List.set_cons_zero, List.set_cons_succ]
            refine held_skip 11 29 ⟨_, rfl, rfl, by rfl⟩ (by kernel_rfl) (by kernel_rfl) (by kernel_rfl) (fun _ _ _ h => h) hHeld ?_
            simp only [Act.put, List.setIfInBounds_toArray, List.set_cons_zero, List.set_cons_succ]
            refine held_skip 12 30 ⟨_, rfl, rfl, by rfl⟩ (by kernel_rfl) (by kernel_rfl) (by kernel_rfl) (fun _ _ _ h => h) hHeld ?_
            simp only [Act.put, List.setIfInBounds_toArray, List.set_cons_zero, List.set_cons_succ]
            refine held_skip 13 31 ⟨_, rfl, rfl, by rfl⟩ (by kernel_rfl) (by kernel_rfl) (by kernel_rfl) (fun _ _ _ h => h) hHeld ?_
            simp only [Act.put, List.setIfInBounds_toArray, List.set_cons_zero, List.set_cons_succ]
            refine held_skip 14 32 ⟨_, rfl, rfl, by rfl⟩ (by kernel_rfl) (by kernel_rfl) (by kernel_rfl) (fun _ _ _ h => h) hHeld ?_
            simp only [Act.put, List.setIfInBounds_toArray, List.set_cons_zero, List.set_cons_succ]
            refine held_skip 15 33 ⟨_, rfl, rfl, by rfl⟩ (by kernel_rfl) (by kernel_rfl) (by kernel_rfl) (fun _ _ _ h => h) hHeld ?_
            simp only [Act.put, List.setIfInBounds_toArray, List.set_cons_zero, List.set_cons_succ]
            refine held_skip 16 34 ⟨_, rfl, rfl, by rfl⟩ (by kernel_rfl) (by kernel_rfl) (by kernel_rfl) (fun _ _ _ h => h) hHeld ?_
            simp only [Act.put, List.setIfInBounds_toArray, List.set_cons_zero, List.set_cons_succ]
            refine held_skip 17 35 ⟨_, rfl, rfl, by rfl⟩ (by kernel_rfl) (by kernel_rfl) (by kernel_rfl) (fun _ _ _ h => h) hHeld ?_
            simp only [Act.put, List.setIfInBounds_toArray, List.set_cons_zero, List.set_cons_succ]
            refine held_skip 18 36 ⟨_, rfl, rfl, by rfl⟩ (by kernel_rfl) (by kernel_rfl) (by kernel_rfl) (fun _ _ _ h => h) hHeld ?_
            simp only [Act.put, List.setIfInBounds_toArray, List.set_cons_zero, List.set_cons_succ]
            refine held_skip 19 37 ⟨_, rfl, rfl, by rfl⟩ (by kernel_rfl) (by kernel_rfl) (by kernel_rfl) (fun _ _ _ h => h) hHeld ?_
            simp only [Act.put, List.setIfInBounds_toArray, List.set_cons_zero, List.set_cons_succ]
            refine held_skip 20 38 ⟨_, rfl, rfl, by rfl⟩ (by kernel_rfl) (by kernel_rfl) (by kernel_rfl) (fun _ _ _ h => h) hHeld ?_
            simp only [Act.put, List.setIfInBounds_toArray, List.set_cons_zero, List.set_cons_succ]
            refine held_skip 21 39 ⟨_, rfl, rfl, by rfl⟩ (by kernel_rfl) (by kernel_rfl) (by kernel_rfl) (fun _ _ _ h => h) hHeld ?_
            simp only [Act.put, List.setIfInBounds_toArray, List.set_cons_zero, List.set_cons_succ]
            refine held_take 22 40 (v := ?_) ⟨_, rfl, rfl, by rfl, ?_⟩ (by kernel_rfl) (by kernel_rfl) (by kernel_rfl) (fun _ _ _ h => h) hHeld ?_
            rotate_left
            · (intro w hSw; (try dsimp only at hSw); go_simp; try with_reducible rfl)
            simp only [Act.put, List.setIfInBounds_toArray, List.set_cons_zero, List.set_cons_succ]
            refine wpAnyH_done (by kernel_rfl) ?_ _
            have hK5 : Kept w w5 := hK.drew.to K5
            go_wp2_with fail
            go_ret
            exact ⟨by rw [HN.out]; rfl, hK5⟩
          · rw [hm] at HG
            have CM := fun W => rmay_any l[j] W hx
            rw [hm] at CM
            by_cases hj0 : j = 0
            · rw [decide_eq_true hj0, Bool.true_or] at HG
              have HN := Lib.hid (goods_succ HQ.out (by rw [HG.out]; rfl))
              have dj : decide ((0 : Int) < (j : Int)) = false := by rw [decide_eq_false_iff_not]; omega
              have djn : decide (0 < j) = false := by rw [decide_eq_false_iff_not]; omega
              have djm : ¬ 0 < j := by omega
              clear HG hm
              generalize l[j] = x at hc hx CM
              have D1 := Lib.hid CM
              clear CM RR HQ hj0
              go_wp2_with fail
              refine wp_region_held_drew (S := fun W => W.cell? ⟨b, o + j, none⟩ = some (.string x)) (by kernel_rfl) hc (fun hHeld => ?_)
              refine held_take 0 18 (v := ?_) ⟨_, rfl, rfl, by rfl, ?_⟩ (by kernel_rfl) (by kernel_rfl) (by kernel_rfl) (fun _ _ _ h => h) hHeld ?_
              rotate_left
              · (intro w hSw; (try dsimp only at hSw); go_simp; try with_reducible rfl)
              simp only [Act.put, List.setIfInBounds_toArray, List.set_cons_zero, List.set_cons_succ]
              refine held_take 1 19 (v := ?_) ⟨_, rfl, rfl, by rfl, ?_⟩ (by kernel_rfl) (by kernel_rfl) (by kernel_rfl) (fun _ _ _ h => h) hHeld ?_
              rotate_left
              · (intro w hSw; (try dsimp only at hSw); go_simp; try with_reducible rfl)
              simp only [Act.put, List.setIfInBounds_toArray, List.set_cons_zero, List.set_cons_succ]
              refine held_take 2 20 (v := ?_) ⟨_, rfl, rfl, by rfl, ?_⟩ (by kernel_rfl) (by kernel_rfl) (by kernel_rfl) (fun _ _ _ h => h) hHeld ?_
              rotate_left
              · (intro w hSw; (try dsimp only at hSw); go_simp; try with_reducible rfl)
              simp only [Act.put, List.setIfInBounds_toArray, List.set_cons_zero, List.set_cons_succ]
              refine held_take 3 21 (v := ?_) ⟨_, rfl, rfl, by rfl, ?_⟩ (by kernel_rfl) (by kernel_rfl) (by kernel_rfl) (fun _ _ _ h => h) hHeld ?_
              rotate_left
              · (intro w hSw; (try dsimp only at hSw); go_simp; try with_reducible rfl)
              simp only [Act.put, List.setIfInBounds_toArray, List.set_cons_zero, List.set_cons_succ]
              refine wpAnyH_ready (rs := [4]) (by kernel_rfl) (by simp) ?_
              refine AllReadyH.cons (o := _) rfl (fun K hK => ?_) AllReadyH.nil
              go_simp
              go_at_call 60
              refine (D1.out _).mono ?_
              rintro e w5 ⟨rfl, K5⟩
              go_wp2_with fail
              refine hK.out _ _ (by (try dsimp only); exact (K5.cell (p := ⟨b, o + j, none⟩) hbl (fun h => h)).trans hc) (fun hHeld => ?_)
              clear hK K
              refine held_take 5 23 (v := ?_) ⟨_, rfl, rfl, by rfl, ?_⟩ (by kernel_rfl) (by kernel_rfl) (by kernel_rfl) (fun _ _ _ h => h) hHeld ?_
              rotate_left
              · (intro w hSw; (try dsimp only at hSw); go_simp; try with_reducible rfl)
              simp only [Act.put, List.setIfInBounds_toArray, List.set_cons_zero, List.set_cons_succ]
              refine held_take 6 24 (v := ?_) ⟨_, rfl, rfl, by rfl, ?_⟩ (by kernel_rfl) (by kernel_rfl) (by kernel_rfl) (fun _ _ _ h => h) hHeld ?_
              rotate_left
              · (intro w hSw; (try dsimp only at hSw); go_simp; try with_reducible rfl)
              simp only [Act.put, List.setIfInBounds_toArray, List.set_cons_zero, List.set_cons_succ]
              refine held_take 7 25 (v := ?_) ⟨_, rfl, rfl, by rfl, ?_⟩ (by kernel_rfl) (by kernel_rfl) (by kernel_rfl) (fun _ _ _ h => h) hHeld ?_
              rotate_left
              · (intro w hSw; (try dsimp only at hSw); go_simp; try with_reducible rfl)
              simp only [Act.put, List.setIfInBounds_toArray, List.set_cons_zero, List.set_cons_succ]
              refine held_take 8 26 (v := ?_) ⟨_, rfl, rfl, by rfl, ?_⟩ (by kernel_rfl) (by kernel_rfl) (by kernel_rfl) (fun _ _ _ h => h) hHeld ?_
              rotate_left
              · (intro w hSw; (try dsimp only at hSw); go_simp; try with_reducible rfl)
              simp only [Act.put, List.setIfInBounds_toArray, List.set_cons_zero, List.set_cons_succ]
              refine held_take 9 27 (v := ?_) ⟨_, rfl, rfl, by rfl, ?_⟩ (by kernel_rfl) (by kernel_rfl) (by kernel_rfl) (fun _ _ _ h => h) hHeld ?_
              rotate_left
              · (intro w hSw; (try dsimp only at hSw); go_simp; try with_reducible rfl)
              simp only [Act.put, List.setIfInBounds_toArray, List.set_cons_zero, List.set_cons_succ]
              refine held_skip 10 28 ⟨_, rfl, rfl, by rfl⟩ (by kernel_rfl) (by kernel_rfl) (by kernel_rfl) (fun _ _ _ h => h) hHeld ?_
              simp only [Act.put, List.setIfInBounds_toArray, List.set_cons_zero, List.set_cons_succ]
              refine held_skip 11 29 ⟨_, rfl, rfl, by rfl⟩ (by kernel_rfl) (by kernel_rfl) (by kernel_rfl) (fun _ _ _ h => h) hHeld ?_
              simp only [Act.put, List.setIfInBounds_toArray, List.set_cons_zero, List.set_cons_succ]
              refine held_skip 12 30 ⟨_, rfl, rfl, by rfl⟩ (by kernel_rfl) (by kernel_rfl) (by kernel_rfl) (fun _ _ _ h => h) hHeld ?_
              simp only [Act.put, List.setIfInBounds_toArray, List.set_cons_zero, List.set_cons_succ]
              refine held_skip 13 31 ⟨_, rfl, rfl, by rfl⟩ (by kernel_rfl) (by kernel_rfl) (by kernel_rfl) (fun _ _ _ h => h) hHeld ?_
              simp only [Act.put, List.setIfInBounds_toArray, List.set_cons_zero, List.set_cons_succ]
              refine held_skip 14 32 ⟨_, rfl, rfl, by rfl⟩ (by kernel_rfl) (by kernel_rfl) (by kernel_rfl) (fun _ _ _ h => h) hHeld ?_
              simp only [Act.put, List.setIfInBounds_toArray, List.set_cons_zero, List.set_cons_succ]
              refine held_skip 15 33 ⟨_, rfl, rfl, by rfl⟩ (by kernel_rfl) (by kernel_rfl) (by kernel_rfl) (fun _ _ _ h => h) hHeld ?_
              simp only [Act.put, List.setIfInBounds_toArray, List.set_cons_zero, List.set_cons_succ]
              refine held_skip 16 34 ⟨_, rfl, rfl, by rfl⟩ (by kernel_rfl) (by kernel_rfl) (by kernel_rfl) (fun _ _ _ h => h) hHeld ?_
              simp only [Act.put, List.setIfInBounds_toArray, List.set_cons_zero, List.set_cons_succ]
              refine held_skip 17 35 ⟨_, rfl, rfl, by rfl⟩ (by kernel_rfl) (by kernel_rfl) (by kernel_rfl) (fun _ _ _ h => h) hHeld ?_
              simp only [Act.put, List.setIfInBounds_toArray, List.set_cons_zero, List.set_cons_succ]
              refine held_skip 18 36 ⟨_, rfl, rfl, by rfl⟩ (by kernel_rfl) (by kernel_rfl) (by kernel_rfl) (fun _ _ _ h => h) hHeld ?_
              simp only [Act.put, List.setIfInBounds_toArray, List.set_cons_zero, List.set_cons_succ]
              refine held_skip 19 37 ⟨_, rfl, rfl, by rfl⟩ (by kernel_rfl) (by kernel_rfl) (by kernel_rfl) (fun _ _ _ h => h) hHeld ?_
              simp only [Act.put, List.setIfInBounds_toArray, List.set_cons_zero, List.set_cons_succ]
              refine held_skip 20 38 ⟨_, rfl, rfl, by rfl⟩ (by kernel_rfl) (by kernel_rfl) (by kernel_rfl) (fun _ _ _ h => h) hHeld ?_
              simp only [Act.put, List.setIfInBounds_toArray, List.set_cons_zero, List.set_cons_succ]
              refine held_take 21 39 (v := ?_) ⟨_, rfl, rfl, by rfl, ?_⟩ (by kernel_rfl) (by kernel_rfl) (by kernel_rfl) (fun _ _ _ h => h) hHeld ?_
              rotate_left
              · (intro w hSw; (try dsimp only at hSw); go_simp; try with_reducible rfl)
              simp only [Act.put, List.setIfInBounds_toArray, List.set_cons_zero, List.set_cons_succ]
              refine held_take 22 40 (v := ?_) ⟨_, rfl, rfl, by rfl, ?_⟩ (by kernel_rfl) (by kernel_rfl) (by kernel_rfl) (fun _ _ _ h => h) hHeld ?_
              rotate_left
              · (intro w hSw; (try dsimp only at hSw); go_simp; try with_reducible rfl)
              simp only [Act.put, List.setIfInBounds_toArray, List.set_cons_zero, List.set_cons_succ]
              refine wpAnyH_done (by kernel_rfl) ?_ _
              have hK5 : Kept w w5 := hK.drew.to K5
              go_wp2_with fail
              go_roundg (gk - 1)
              case measure => omega
              case rel => exact ⟨j + 1, by omega, by go_num, HN.out, hK5⟩
            · obtain ⟨b', o', hbb, _, hc2⟩ := ReadsT.cell_one (fun _ => rfl) RR (j := j - 1) (by omega)
              cases hbb
              have hy := HS.out _ (List.getElem_mem (show j - 1 < l.length by omega))
              rw [wordAt_eq (show j - 1 < l.length by omega), decide_eq_false hj0, Bool.false_or, Bool.true_and] at HG
              have CL := fun W => rless_any l[j - 1] l[j] W hy
              rcases hm2 : lessR l[j - 1] l[j] with _ | _
              · rw [hm2] at CL HG
                have HN : Hid (setR l = false) := by
                  show setR l = false
                  rw [HE2.out]
                  exact goods_false hjl (by rw [HG.out])
                clear HG hm hm2
                generalize l[j] = x at hc hx CM CL
                generalize l[j - 1] = y at hc2 hy CL
                obtain ⟨p, hpj⟩ : ∃ p, j = p + 1 := ⟨j - 1, by omega⟩
                rw [show j - 1 = p by omega] at hc2
                have i2 : (0 : Int) ≤ (p : Int) := by omega
                have i3 : (p : Int) < (l.length : Int) := by omega
                have dj : decide ((0 : Int) < (j : Int)) = true := by rw [decide_eq_true_eq]; omega
                have djn : decide (0 < j) = true := by rw [decide_eq_true_eq]; omega
                have djp : 0 < j := by omega
                have k1 : IntKind.i64.wrap ((j : Int) - 1) = (p : Int) := by rw [IntKind.wrap_i64]; omega
                have D1 := Lib.hid CM
                have D2 := Lib.hid CL
                clear CM CL RR HQ hj0 hpj
                go_wp2_with fail
                refine wp_region_held_drew (S := fun W => W.cell? ⟨b, o + j, none⟩ = some (.string x) ∧ W.cell? ⟨b, o + p, none⟩ = some (.string y)) (by kernel_rfl) ⟨hc, hc2⟩ (fun hHeld => ?_)
                refine held_take 0 18 (v := ?_) ⟨_, rfl, rfl, by rfl, ?_⟩ (by kernel_rfl) (by kernel_rfl) (by kernel_rfl) (fun _ _ _ h => h) hHeld ?_
                rotate_left
                · (intro w hSw; (try dsimp only at hSw); go_simp; try with_reducible rfl)
                simp only [Act.put, List.setIfInBounds_toArray, List.set_cons_zero, List.set_cons_succ]
                refine held_take 1 19 (v := ?_) ⟨_, rfl, rfl, by rfl, ?_⟩ (by kernel_rfl) (by kernel_rfl) (by kernel_rfl) (fun _ _ _ h => h) hHeld ?_
                rotate_left
                · (intro w hSw; (try dsimp only at hSw); go_simp; try with_reducible rfl)
                simp only [Act.put, List.setIfInBounds_toArray, List.set_cons_zero, List.set_cons_succ]
                refine held_take 2 20 (v := ?_) ⟨_, rfl, rfl, by rfl, ?_⟩ (by kernel_rfl) (by kernel_rfl) (by kernel_rfl) (fun _ _ _ h => h) hHeld ?_
                rotate_left
                · (intro w hSw; (try dsimp only at hSw); go_simp; try with_reducible rfl)
                simp only [Act.put, List.setIfInBounds_toArray, List.set_cons_zero, List.set_cons_succ]
                refine held_take 3 21 (v := ?_) ⟨_, rfl, rfl, by rfl, ?_⟩ (by kernel_rfl) (by kernel_rfl) (by kernel_rfl) (fun _ _ _ h => h) hHeld ?_
                rotate_left
                · (intro w hSw; (try dsimp only at hSw); go_simp; try with_reducible rfl)
                simp only [Act.put, List.setIfInBounds_toArray, List.set_cons_zero, List.set_cons_succ]
                refine wpAnyH_ready (rs := [4]) (by kernel_rfl) (by simp) ?_
                refine AllReadyH.cons (o := _) rfl (fun K hK => ?_) AllReadyH.nil
                go_simp
                go_at_call 60
                refine (D1.out _).mono ?_
                rintro e w5 ⟨rfl, K5⟩
                go_wp2_with fail
                refine hK.out _ _ (by (try dsimp only); exact ⟨(K5.cell (p := ⟨b, o + j, none⟩) hbl (fun h => h)).trans hc, (K5.cell (p := ⟨b, o + p, none⟩) hbl (fun h => h)).trans hc2⟩) (fun hHeld => ?_)
                clear hK K
                refine held_take 5 23 (v := ?_) ⟨_, rfl, rfl, by rfl, ?_⟩ (by kernel_rfl) (by kernel_rfl) (by kernel_rfl) (fun _ _ _ h => h) hHeld ?_
                rotate_left
                · (intro w hSw; (try dsimp only at hSw); go_simp; try with_reducible rfl)
                simp only [Act.put, List.setIfInBounds_toArray, List.set_cons_zero, List.set_cons_succ]
                refine held_take 6 24 (v := ?_) ⟨_, rfl, rfl, by rfl, ?_⟩ (by kernel_rfl) (by kernel_rfl) (by kernel_rfl) (fun _ _ _ h => h) hHeld ?_
                rotate_left
                · (intro w hSw; (try dsimp only at hSw); go_simp; try with_reducible rfl)
                simp only [Act.put, List.setIfInBounds_toArray, List.set_cons_zero, List.set_cons_succ]
                refine held_take 7 25 (v := ?_) ⟨_, rfl, rfl, by rfl, ?_⟩ (by kernel_rfl) (by kernel_rfl) (by kernel_rfl) (fun _ _ _ h => h) hHeld ?_
                rotate_left
                · (intro w hSw; (try dsimp only at hSw); go_simp; try with_reducible rfl)
                simp only [Act.put, List.setIfInBounds_toArray, List.set_cons_zero, List.set_cons_succ]
                refine held_take 8 26 (v := ?_) ⟨_, rfl, rfl, by rfl, ?_⟩ (by kernel_rfl) (by kernel_rfl) (by kernel_rfl) (fun _ _ _ h => h) hHeld ?_
                rotate_left
                · (intro w hSw; (try dsimp only at hSw); go_simp; try with_reducible rfl)
                simp only [Act.put, List.setIfInBounds_toArray, List.set_cons_zero, List.set_cons_succ]
                refine held_take 9 27 (v := ?_) ⟨_, rfl, rfl, by rfl, ?_⟩ (by kernel_rfl) (by kernel_rfl) (by kernel_rfl) (fun _ _ _ h => h) hHeld ?_
                rotate_left
                · (intro w hSw; (try dsimp only at hSw); go_simp; try with_reducible rfl)
                simp only [Act.put, List.setIfInBounds_toArray, List.set_cons_zero, List.set_cons_succ]
                refine held_take 10 28 (v := ?_) ⟨_, rfl, rfl, by rfl, ?_⟩ (by kernel_rfl) (by kernel_rfl) (by kernel_rfl) (fun _ _ _ h => h) hHeld ?_
                rotate_left
                · (intro w hSw; (try dsimp only at hSw); go_simp; try with_reducible rfl)
                simp only [Act.put, List.setIfInBounds_toArray, List.set_cons_zero, List.set_cons_succ]
                refine held_take 11 29 (v := ?_) ⟨_, rfl, rfl, by rfl, ?_⟩ (by kernel_rfl) (by kernel_rfl) (by kernel_rfl) (fun _ _ _ h => h) hHeld ?_
                rotate_left
                · (intro w hSw; (try dsimp only at hSw); go_simp; try with_reducible rfl)
                simp only [Act.put, List.setIfInBounds_toArray, List.set_cons_zero, List.set_cons_succ]
                refine held_take 12 30 (v := ?_) ⟨_, rfl, rfl, by rfl, ?_⟩ (by kernel_rfl) (by kernel_rfl) (by kernel_rfl) (fun _ _ _ h => h) hHeld ?_
                rotate_left
                · (intro w hSw; (try dsimp only at hSw); go_simp; try with_reducible rfl)
                simp only [Act.put, List.setIfInBounds_toArray, List.set_cons_zero, List.set_cons_succ]
                refine held_take 13 31 (v := ?_) ⟨_, rfl, rfl, by rfl, ?_⟩ (by kernel_rfl) (by kernel_rfl) (by kernel_rfl) (fun _ _ _ h => h) hHeld ?_
                rotate_left
                · (intro w hSw; (try dsimp only at hSw); go_simp; try with_reducible rfl)
                simp only [Act.put, List.setIfInBounds_toArray, List.set_cons_zero, List.set_cons_succ]
                refine held_take 14 32 (v := ?_) ⟨_, rfl, rfl, by rfl, ?_⟩ (by kernel_rfl) (by kernel_rfl) (by kernel_rfl) (fun _ _ _ h => h) hHeld ?_
                rotate_left
                · (intro w hSw; (try dsimp only at hSw); go_simp; try with_reducible rfl)
                simp only [Act.put, List.setIfInBounds_toArray, List.set_cons_zero, List.set_cons_succ]
                refine held_take 15 33 (v := ?_) ⟨_, rfl, rfl, by rfl, ?_⟩ (by kernel_rfl) (by kernel_rfl) (by kernel_rfl) (fun _ _ _ h => h) hHeld ?_
                rotate_left
                · (intro w hSw; (try dsimp only at hSw); go_simp; try with_reducible rfl)
                simp only [Act.put, List.setIfInBounds_toArray, List.set_cons_zero, List.set_cons_succ]
                refine held_take 16 34 (v := ?_) ⟨_, rfl, rfl, by rfl, ?_⟩ (by kernel_rfl) (by kernel_rfl) (by kernel_rfl) (fun _ _ _ h => h) hHeld ?_
                rotate_left
                · (intro w hSw; (try dsimp only at hSw); go_simp; try with_reducible rfl)
                simp only [Act.put, List.setIfInBounds_toArray, List.set_cons_zero, List.set_cons_succ]
                refine held_take 17 35 (v := ?_) ⟨_, rfl, rfl, by rfl, ?_⟩ (by kernel_rfl) (by kernel_rfl) (by kernel_rfl) (fun _ _ _ h => h) hHeld ?_
                rotate_left
                · (intro w hSw; (try dsimp only at hSw); go_simp; try with_reducible rfl)
                simp only [Act.put, List.setIfInBounds_toArray, List.set_cons_zero, List.set_cons_succ]
                refine held_take 18 36 (v := ?_) ⟨_, rfl, rfl, by rfl, ?_⟩ (by kernel_rfl) (by kernel_rfl) (by kernel_rfl) (fun _ _ _ h => h) hHeld ?_
                rotate_left
                · (intro w hSw; (try dsimp only at hSw); go_simp; try with_reducible rfl)
                simp only [Act.put, List.setIfInBounds_toArray, List.set_cons_zero, List.set_cons_succ]
                refine wpAnyH_ready (rs := [19]) (by kernel_rfl) (by simp) ?_
                refine AllReadyH.cons (o := _) rfl (fun K hK => ?_) AllReadyH.nil
                go_simp
                go_at_call 61
                refine (D2.out _).mono ?_
                rintro e w6 ⟨rfl, n6, rfl⟩
                go_wp2_with fail
                refine hK.out _ _ (by (try dsimp only); exact ⟨(K5.cell (p := ⟨b, o + j, none⟩) hbl (fun h => h)).trans hc, (K5.cell (p := ⟨b, o + p, none⟩) hbl (fun h => h)).trans hc2⟩) (fun hHeld => ?_)
                clear hK K
                refine held_take 20 38 (v := ?_) ⟨_, rfl, rfl, by rfl, ?_⟩ (by kernel_rfl) (by kernel_rfl) (by kernel_rfl) (fun _ _ _ h => h) hHeld ?_
                rotate_left
                · (intro w hSw; (try dsimp only at hSw); go_simp; try with_reducible rfl)
                simp only [Act.put, List.setIfInBounds_toArray, List.set_cons_zero, List.set_cons_succ]
                refine held_take 21 39 (v := ?_) ⟨_, rfl, rfl, by rfl, ?_⟩ (by kernel_rfl) (by kernel_rfl) (by kernel_rfl) (fun _ _ _ h => h) hHeld ?_
                rotate_left
                · (intro w hSw; (try dsimp only at hSw); go_simp; try with_reducible rfl)
                simp only [Act.put, List.setIfInBounds_toArray, List.set_cons_zero, List.set_cons_succ]
                refine held_take 22 40 (v := ?_) ⟨_, rfl, rfl, by rfl, ?_⟩ (by kernel_rfl) (by kernel_rfl) (by kernel_rfl) (fun _ _ _ h => h) hHeld ?_
                rotate_left
                · (intro w hSw; (try dsimp only at hSw); go_simp; try with_reducible rfl)
                simp only [Act.put, List.setIfInBounds_toArray, List.set_cons_zero, List.set_cons_succ]
                refine wpAnyH_done (by kernel_rfl) ?_ _
                have hK5 : Kept w w5 := hK.drew.to K5
                go_wp2_with fail
                go_ret
                exact ⟨by rw [HN.out]; rfl, hK5.drewN _⟩
              · rw [hm2] at CL HG
                have HN := Lib.hid (goods_succ HQ.out (by rw [HG.out]))
                clear HG hm hm2
                generalize l[j] = x at hc hx CM CL
                generalize l[j - 1] = y at hc2 hy CL
                obtain ⟨p, hpj⟩ : ∃ p, j = p + 1 := ⟨j - 1, by omega⟩
                rw [show j - 1 = p by omega] at hc2
                have i2 : (0 : Int) ≤ (p : Int) := by omega
                have i3 : (p : Int) < (l.length : Int) := by omega
                have dj : decide ((0 : Int) < (j : Int)) = true := by rw [decide_eq_true_eq]; omega
                have djn : decide (0 < j) = true := by rw [decide_eq_true_eq]; omega
                have djp : 0 < j := by omega
                have k1 : IntKind.i64.wrap ((j : Int) - 1) = (p : Int) := by rw [IntKind.wrap_i64]; omega
                have D1 := Lib.hid CM
                have D2 := Lib.hid CL
                clear CM CL RR HQ hj0 hpj
                go_wp2_with fail
                refine wp_region_held_drew (S := fun W => W.cell? ⟨b, o + j, none⟩ = some (.string x) ∧ W.cell? ⟨b, o + p, none⟩ = some (.string y)) (by kernel_rfl) ⟨hc, hc2⟩ (fun hHeld => ?_)
                refine held_take 0 18 (v := ?_) ⟨_, rfl, rfl, by rfl, ?_⟩ (by kernel_rfl) (by kernel_rfl) (by kernel_rfl) (fun _ _ _ h => h) hHeld ?_
                rotate_left
                · (intro w hSw; (try dsimp only at hSw); go_simp; try with_reducible rfl)
                simp only [Act.put, List.setIfInBounds_toArray, List.set_cons_zero, List.set_cons_succ]
                refine held_take 1 19 (v := ?_) ⟨_, rfl, rfl, by rfl, ?_⟩ (by kernel_rfl) (by kernel_rfl) (by kernel_rfl) (fun _ _ _ h => h) hHeld ?_
                rotate_left
                · (intro w hSw; (try dsimp only at hSw); go_simp; try with_reducible rfl)
                simp only [Act.put, List.setIfInBounds_toArray, List.set_cons_zero, List.set_cons_succ]
                refine held_take 2 20 (v := ?_) ⟨_, rfl, rfl, by rfl, ?_⟩ (by kernel_rfl) (by kernel_rfl) (by kernel_rfl) (fun _ _ _ h => h) hHeld ?_
                rotate_left
                · (intro w hSw; (try dsimp only at hSw); go_simp; try with_reducible rfl)
                simp only [Act.put, List.setIfInBounds_toArray, List.set_cons_zero, List.set_cons_succ]
                refine held_take 3 21 (v := ?_) ⟨_, rfl, rfl, by rfl, ?_⟩ (by kernel_rfl) (by kernel_rfl) (by kernel_rfl) (fun _ _ _ h => h) hHeld ?_
                rotate_left
                · (intro w hSw; (try dsimp only at hSw); go_simp; try with_reducible rfl)
                simp only [Act.put, List.setIfInBounds_toArray, List.set_cons_zero, List.set_cons_succ]
                refine wpAnyH_ready (rs := [4]) (by kernel_rfl) (by simp) ?_
                refine AllReadyH.cons (o := _) rfl (fun K hK => ?_) AllReadyH.nil
                go_simp
                go_at_call 60
                refine (D1.out _).mono ?_
                rintro e w5 ⟨rfl, K5⟩
                go_wp2_with fail
                refine hK.out _ _ (by (try dsimp only); exact ⟨(K5.cell (p := ⟨b, o + j, none⟩) hbl (fun h => h)).trans hc, (K5.cell (p := ⟨b, o + p, none⟩) hbl (fun h => h)).trans hc2⟩) (fun hHeld => ?_)
                clear hK K
                refine held_take 5 23 (v := ?_) ⟨_, rfl, rfl, by rfl, ?_⟩ (by kernel_rfl) (by kernel_rfl) (by kernel_rfl) (fun _ _ _ h => h) hHeld ?_
                rotate_left
                · (intro w hSw; (try dsimp only at hSw); go_simp; try with_reducible rfl)
                simp only [Act.put, List.setIfInBounds_toArray, List.set_cons_zero, List.set_cons_succ]
                refine held_take 6 24 (v := ?_) ⟨_, rfl, rfl, by rfl, ?_⟩ (by kernel_rfl) (by kernel_rfl) (by kernel_rfl) (fun _ _ _ h => h) hHeld ?_
                rotate_left
                · (intro w hSw; (try dsimp only at hSw); go_simp; try with_reducible rfl)
                simp only [Act.put, List.setIfInBounds_toArray, List.set_cons_zero, List.set_cons_succ]
                refine held_take 7 25 (v := ?_) ⟨_, rfl, rfl, by rfl, ?_⟩ (by kernel_rfl) (by kernel_rfl) (by kernel_rfl) (fun _ _ _ h => h) hHeld ?_
                rotate_left
                · (intro w hSw; (try dsimp only at hSw); go_simp; try with_reducible rfl)
                simp only [Act.put, List.setIfInBounds_toArray, List.set_cons_zero, List.set_cons_succ]
                refine held_take 8 26 (v := ?_) ⟨_, rfl, rfl, by rfl, ?_⟩ (by kernel_rfl) (by kernel_rfl) (by kernel_rfl) (fun _ _ _ h => h) hHeld ?_
                rotate_left
                · (intro w hSw; (try dsimp only at hSw); go_simp; try with_reducible rfl)
                simp only [Act.put, List.setIfInBounds_toArray, List.set_cons_zero, List.set_cons_succ]
                refine held_take 9 27 (v := ?_) ⟨_, rfl, rfl, by rfl, ?_⟩ (by kernel_rfl) (by kernel_rfl) (by kernel_rfl) (fun _ _ _ h => h) hHeld ?_
                rotate_left
                · (intro w hSw; (try dsimp only at hSw); go_simp; try with_reducible rfl)
                simp only [Act.put, List.setIfInBounds_toArray, List.set_cons_zero, List.set_cons_succ]
                refine held_take 10 28 (v := ?_) ⟨_, rfl, rfl, by rfl, ?_⟩ (by kernel_rfl) (by kernel_rfl) (by kernel_rfl) (fun _ _ _ h => h) hHeld ?_
                rotate_left
                · (intro w hSw; (try dsimp only at hSw); go_simp; try with_reducible rfl)
                simp only [Act.put, List.setIfInBounds_toArray, List.set_cons_zero, List.set_cons_succ]
                refine held_take 11 29 (v := ?_) ⟨_, rfl, rfl, by rfl, ?_⟩ (by kernel_rfl) (by kernel_rfl) (by kernel_rfl) (fun _ _ _ h => h) hHeld ?_
                rotate_left
                · (intro w hSw; (try dsimp only at hSw); go_simp; try with_reducible rfl)
                simp only [Act.put, List.setIfInBounds_toArray, List.set_cons_zero, List.set_cons_succ]
                refine held_take 12 30 (v := ?_) ⟨_, rfl, rfl, by rfl, ?_⟩ (by kernel_rfl) (by kernel_rfl) (by kernel_rfl) (fun _ _ _ h => h) hHeld ?_
                rotate_left
                · (intro w hSw; (try dsimp only at hSw); go_simp; try with_reducible rfl)
                simp only [Act.put, List.setIfInBounds_toArray, List.set_cons_zero, List.set_cons_succ]
                refine held_take 13 31 (v := ?_) ⟨_, rfl, rfl, by rfl, ?_⟩ (by kernel_rfl) (by kernel_rfl) (by kernel_rfl) (fun _ _ _ h => h) hHeld ?_
                rotate_left
                · (intro w hSw; (try dsimp only at hSw); go_simp; try with_reducible rfl)
                simp only [Act.put, List.setIfInBounds_toArray, List.set_cons_zero, List.set_cons_succ]
                refine held_take 14 32 (v := ?_) ⟨_, rfl, rfl, by rfl, ?_⟩ (by kernel_rfl) (by kernel_rfl) (by kernel_rfl) (fun _ _ _ h => h) hHeld ?_
                rotate_left
                · (intro w hSw; (try dsimp only at hSw); go_simp; try with_reducible rfl)
                simp only [Act.put, List.setIfInBounds_toArray, List.set_cons_zero, List.set_cons_succ]
                refine held_take 15 33 (v := ?_) ⟨_, rfl, rfl, by rfl, ?_⟩ (by kernel_rfl) (by kernel_rfl) (by kernel_rfl) (fun _ _ _ h => h) hHeld ?_
                rotate_left
                · (intro w hSw; (try dsimp only at hSw); go_simp; try with_reducible rfl)
                simp only [Act.put, List.setIfInBounds_toArray, List.set_cons_zero, List.set_cons_succ]
                refine held_take 16 34 (v := ?_) ⟨_, rfl, rfl, by rfl, ?_⟩ (by kernel_rfl) (by kernel_rfl) (by kernel_rfl) (fun _ _ _ h => h) hHeld ?_
                rotate_left
                · (intro w hSw; (try dsimp only at hSw); go_simp; try with_reducible rfl)
                simp only [Act.put, List.setIfInBounds_toArray, List.set_cons_zero, List.set_cons_succ]
                refine held_take 17 35 (v := ?_) ⟨_, rfl, rfl, by rfl, ?_⟩ (by kernel_rfl) (by kernel_rfl) (by kernel_rfl) (fun _ _ _ h => h) hHeld ?_
                rotate_left
                · (intro w hSw; (try dsimp only at hSw); go_simp; try with_reducible rfl)
                simp only [Act.put, List.setIfInBounds_toArray, List.set_cons_zero, List.set_cons_succ]
                refine held_take 18 36 (v := ?_) ⟨_, rfl, rfl, by rfl, ?_⟩ (by kernel_rfl) (by kernel_rfl) (by kernel_rfl) (fun _ _ _ h => h) hHeld ?_
                rotate_left
                · (intro w hSw; (try dsimp only at hSw); go_simp; try with_reducible rfl)
                simp only [Act.put, List.setIfInBounds_toArray, List.set_cons_zero, List.set_cons_succ]
                refine wpAnyH_ready (rs := [19]) (by kernel_rfl) (by simp) ?_
                refine AllReadyH.cons (o := _) rfl (fun K hK => ?_) AllReadyH.nil
                go_simp
                go_at_call 61
                refine (D2.out _).mono ?_
                rintro e w6 ⟨rfl, n6, rfl⟩
                go_wp2_with fail
                refine hK.out _ _ (by (try dsimp only); exact ⟨(K5.cell (p := ⟨b, o + j, none⟩) hbl (fun h => h)).trans hc, (K5.cell (p := ⟨b, o + p, none⟩) hbl (fun h => h)).trans hc2⟩) (fun hHeld => ?_)
                clear hK K
                refine held_take 20 38 (v := ?_) ⟨_, rfl, rfl, by rfl, ?_⟩ (by kernel_rfl) (by kernel_rfl) (by kernel_rfl) (fun _ _ _ h => h) hHeld ?_
                rotate_left
                · (intro w hSw; (try dsimp only at hSw); go_simp; try with_reducible rfl)
                simp only [Act.put, List.setIfInBounds_toArray, List.set_cons_zero, List.set_cons_succ]
                refine held_take 21 39 (v := ?_) ⟨_, rfl, rfl, by rfl, ?_⟩ (by kernel_rfl) (by kernel_rfl) (by kernel_rfl) (fun _ _ _ h => h) hHeld ?_
                rotate_left
                · (intro w hSw; (try dsimp only at hSw); go_simp; try with_reducible rfl)
                simp only [Act.put, List.setIfInBounds_toArray, List.set_cons_zero, List.set_cons_succ]
                refine held_take 22 40 (v := ?_) ⟨_, rfl, rfl, by rfl, ?_⟩ (by kernel_rfl) (by kernel_rfl) (by kernel_rfl) (fun _ _ _ h => h) hHeld ?_
                rotate_left
                · (intro w hSw; (try dsimp only at hSw); go_simp; try with_reducible rfl)
                simp only [Act.put, List.setIfInBounds_toArray, List.set_cons_zero, List.set_cons_succ]
                refine wpAnyH_done (by kernel_rfl) ?_ _
                have hK5 : Kept w w5 := hK.drew.to K5
                go_wp2_with fail
                go_roundg (gk - 1)
                case measure => clear k1; omega
                case rel => clear k1; exact ⟨j + 1, by omega, by go_num, HN.out, hK5.drewN _⟩
        · have hjj : j = l.length := by omega
          have i1 : ¬ (j : Int) < (l.length : Int) := by omega
          have HN : Hid (setR l = true) := by
            show setR l = true
            rw [HE2.out, ← hjj]
            exact HQ.out
          clear HQ hjj
          go_wp2_with fail
          go_ret
          exact ⟨by rw [HN.out]; rfl, hK⟩
    · have d2 : decide ((16 : Int) < (l.length : Int)) = true := by rw [decide_eq_true_eq]; omega
      have HN : Hid (setR l = false) := by
        show setR l = _
        rw [HE.out, decide_eq_true h1, decide_eq_false h2]
        rfl
      clear HE
      go_enter Try.func47, Try.ntmps47
      go_wp2_with fail
      go_ret
      exact ⟨by rw [HN.out]; rfl, Turned.refl _ _⟩
  · have d1 : decide ((l.length : Int) < 1) = true := by rw [decide_eq_true_eq]; omega
    have HN : Hid (setR l = false) := by
      show setR l = _
      rw [HE.out, decide_eq_false h1]
      rfl
    clear HE
    go_enter Try.func47, Try.ntmps47
    go_wp2_with fail
    go_ret
    exact ⟨by rw [HN.out]; rfl, Turned.refl _ _⟩
end Go.Proofs.Ytnicfiochnkjbaa
