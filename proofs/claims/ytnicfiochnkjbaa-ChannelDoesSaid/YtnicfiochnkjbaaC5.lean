/- May, both. -/
import Derived.Test.YtnicfiochnkjbaaC4
namespace Go.Proofs.Ytnicfiochnkjbaa
open Go.RowKit

/-- May a word be? -/
def noZero (l : List Int) : Bool := l.all (fun x => x != 0)
def mayR (s : ByteArray) : Bool := !oddR s && (decide (1 ≤ lenR s) && (decide (lenR s ≤ 8) && noZero (atomsR s)))
theorem noZero_succ {l : List Int} {j : Nat} (h : j < l.length) (h0 : noZero (l.take j) = true) (h1 : l[j] ≠ 0) : noZero (l.take (j + 1)) = true := by
  unfold noZero at *
  rw [List.take_succ_eq_append_getElem h, List.all_append, h0]
  simpa using h1
theorem noZero_false {l : List Int} {j : Nat} (h : j < l.length) (h1 : l[j] = 0) : noZero l = false := by
  unfold noZero
  rw [Bool.eq_false_iff]
  intro h2
  have := (List.all_eq_true.1 h2) _ (List.getElem_mem h)
  simp [h1] at this
set_option maxRecDepth 100000 in
set_option maxHeartbeats 1000000 in
theorem may_any (s : ByteArray) (w : World) (hs : s.size ≤ 1000000) :
    Calls Try.prog 66 #[.string s] w fun e w' => e = .returned (.bool (mayR s)) ∧ ∃ n, w' = w.drewN n := by
  have hm : s.size ≤ maxLen := by unfold maxLen; omega
  have C1 := Lib.hid (odd_any s w hm)
  have C2 := Lib.hid (len_any s w hm)
  have hln := atoms_length s
  have hL : lenR s = ((atomsR s).length : Int) := by unfold lenR; omega
  have HM : Hid (mayR s = (!oddR s && (decide (1 ≤ ((atomsR s).length : Int)) && (decide (((atomsR s).length : Int) ≤ 8) && noZero (atomsR s))))) := by
    show mayR s = _
    unfold mayR
    rw [hL]
  rw [hL] at C2
  clear hL hln
  rcases ho : oddR s with _ | _
  · rw [ho] at C1 HM
    by_cases h1 : 1 ≤ (atomsR s).length
    · have d1 : decide (((atomsR s).length : Int) < 1) = false := by simp; omega
      by_cases h2 : (atomsR s).length ≤ 8
      · have d2 : decide (8 < ((atomsR s).length : Int)) = false := by simp; omega
        have HM2 : Hid (mayR s = noZero (atomsR s)) := by
          show mayR s = _
          rw [HM.out, decide_eq_true (by omega), decide_eq_true (by omega)]
          rfl
        clear ho HM
        go_enter Try.func66, Try.ntmps66
        go_wp2_with fail
        refine C1.out.mono ?_
        rintro e w' ⟨rfl, rfl⟩
        go_wp2_with fail
        refine C2.out.mono ?_
        rintro e w' ⟨rfl, rfl⟩
        go_wp2_with fail
        refine C2.out.mono ?_
        rintro e w' ⟨rfl, rfl⟩
        go_wp2_with fail
        refine C2.out.mono ?_
        rintro e w' ⟨rfl, rfl⟩
        clear C1 C2 d1 d2
        go_wp2_with fail
        go_loopg [18] (atomsR s).length (fun gk i wr => ∃ j : Nat, j + gk = (atomsR s).length ∧ i = .int .i64 j ∧ noZero ((atomsR s).take j) = true ∧ ∃ n, wr = w.drewN n)
        case atStart => exact ⟨0, Nat.zero_add _, rfl, rfl, 0, rfl⟩
        case round =>
          obtain ⟨j, hj, rfl, hz, n, rfl⟩ := hrel
          have HZ := Lib.hid hz
          clear hz
          by_cases hjl : j < (atomsR s).length
          · have CA := Lib.hid (at_any s j (w.drewN n) hm ⟨by omega, by omega⟩)
            have hg := Lib.hid (at_get (s := s) (i := j) hjl)
            obtain ⟨x, hx⟩ : ∃ x, x = atR s j := ⟨_, rfl⟩
            rw [← hx] at CA hg
            have HX := Lib.hid hx
            clear hx
            by_cases hx0 : x = 0
            · have d : (x == 0) = true := by simpa using hx0
              have HF : Hid (noZero (atomsR s) = false) := noZero_false hjl (by rw [← hg.out, hx0])
              clear hx0
              go_wp2_with fail
              refine CA.out.mono ?_
              rintro e w' ⟨rfl, n2, rfl⟩
              go_wp2_with fail
              go_ret
              exact ⟨by rw [HM2.out, HF.out]; rfl, n + n2, rfl⟩
            · have d : (x == 0) = false := by simpa using hx0
              have HF := Lib.hid (noZero_succ hjl HZ.out (by rw [← hg.out]; exact hx0))
              clear hx0
              go_wp2_with fail
              refine CA.out.mono ?_
              rintro e w' ⟨rfl, n2, rfl⟩
              go_wp2_with fail
              go_roundg (gk - 1)
              case measure => omega
              case rel => exact ⟨j + 1, by omega, by go_num, HF.out, n + n2, rfl⟩
          · have hjj : j = (atomsR s).length := by omega
            have HF : Hid (noZero (atomsR s) = true) := by
              show noZero (atomsR s) = true
              have := HZ.out
              rwa [hjj, List.take_length] at this
            have hjg : ¬ (j : Int) < ((atomsR s).length : Int) := by omega
            clear hjj
            go_wp2_with fail
            go_ret
            exact ⟨by rw [HM2.out, HF.out]; rfl, n, rfl⟩
      · have d2 : decide (8 < ((atomsR s).length : Int)) = true := by simp; omega
        have HM2 : Hid (mayR s = false) := by
          show mayR s = _
          rw [HM.out, decide_eq_true (by omega), decide_eq_false (by omega)]
          rfl
        clear ho HM
        go_enter Try.func66, Try.ntmps66
        go_wp2_with fail
        refine C1.out.mono ?_
        rintro e w' ⟨rfl, rfl⟩
        go_wp2_with fail
        refine C2.out.mono ?_
        rintro e w' ⟨rfl, rfl⟩
        go_wp2_with fail
        refine C2.out.mono ?_
        rintro e w' ⟨rfl, rfl⟩
        go_wp2_with fail
        go_ret
        exact ⟨by rw [HM2.out]; rfl, 0, rfl⟩
    · have d1 : decide (((atomsR s).length : Int) < 1) = true := by simp; omega
      have HM2 : Hid (mayR s = false) := by
        show mayR s = _
        rw [HM.out, decide_eq_false (by omega)]
        rfl
      clear ho HM
      go_enter Try.func66, Try.ntmps66
      go_wp2_with fail
      refine C1.out.mono ?_
      rintro e w' ⟨rfl, rfl⟩
      go_wp2_with fail
      refine C2.out.mono ?_
      rintro e w' ⟨rfl, rfl⟩
      go_wp2_with fail
      go_ret
      exact ⟨by rw [HM2.out]; rfl, 0, rfl⟩
  · rw [ho] at C1 HM
    have HM2 : Hid (mayR s = false) := by
      show mayR s = _
      rw [HM.out]
      rfl
    clear ho HM
    go_enter Try.func66, Try.ntmps66
    go_wp2_with fail
    refine C1.out.mono ?_
    rintro e w' ⟨rfl, rfl⟩
    go_wp2_with fail
    go_ret
    exact ⟨by rw [HM2.out]; rfl, 0, rfl⟩

set_option maxRecDepth 100000 in
set_option maxHeartbeats 1000000 in
theorem rmay_any (s : ByteArray) (w : World) (hs : s.size ≤ 1000000) :
    Calls Try.prog 60 #[.string s] w fun e w' => e = .returned (.bool (mayR s)) ∧ Kept w w' := by
  have C := Lib.hid (ratoms_any s w hs)
  have hln := atoms_length s
  have hL : lenR s = ((atomsR s).length : Int) := by unfold lenR; omega
  have HM : Hid (mayR s = (!oddR s && (decide (1 ≤ ((atomsR s).length : Int)) && (decide (((atomsR s).length : Int) ≤ 8) && noZero (atomsR s))))) := by
    show mayR s = _
    unfold mayR
    rw [hL]
  have HO : Hid (oddR s = decide (s.size % 2 = 1)) := Lib.hid rfl
  have hb : (atomsR s).length ≤ 500000 := by omega
  clear hL hln
  go_enter Try.func60, Try.ntmps60
  go_wp2_with fail
  refine C.out.mono ?_
  rintro e w1 ⟨v, rfl, hown, hK⟩
  obtain ⟨A, c, rfl⟩ := own_slice hown
  have HR := Lib.hid (ReadsT.of_one (V := atV) (fun _ => rfl) hown)
  clear C hown
  go_wp2_with fail
  go_loopg [4] (atomsR s).length (fun gk i wr => ∃ j : Nat, j + gk = (atomsR s).length ∧ i = .int .i64 j ∧ noZero ((atomsR s).take j) = true ∧ w1 = wr)
  case atStart => exact ⟨0, Nat.zero_add _, rfl, rfl, rfl⟩
  case round =>
    obtain ⟨j, hj, rfl, hz, rfl⟩ := hrel
    have HZ := Lib.hid hz
    clear hz
    by_cases hjl : j < (atomsR s).length
    · obtain ⟨b, o, rfl, _, hc⟩ := ReadsT.cell_one (fun _ => rfl) HR.out hjl
      obtain ⟨x, hx⟩ : ∃ x, x = (atomsR s)[j] := ⟨_, rfl⟩
      rw [← hx] at hc
      unfold atV at hc
      have HX := Lib.hid hx
      clear hx HR
      have i1 : (j : Int) < ((atomsR s).length : Int) := by omega
      by_cases hx0 : x = 0
      · have d : (x == 0) = true := by simpa using hx0
        have HF : Hid (noZero (atomsR s) = false) := noZero_false hjl (by rw [← HX.out, hx0])
        clear hx0
        go_wp2_with fail
        go_ret
        exact ⟨by rw [HM.out, HF.out]; simp, hK⟩
      · have d : (x == 0) = false := by simpa using hx0
        have HF := Lib.hid (noZero_succ hjl HZ.out (by rw [← HX.out]; exact hx0))
        clear hx0
        go_wp2_with fail
        go_roundg (gk - 1)
        case measure => omega
        case rel => exact ⟨j + 1, by omega, by go_num, HF.out, rfl⟩
    · have hjj : j = (atomsR s).length := by omega
      have HF : Hid (noZero (atomsR s) = true) := by
        show noZero (atomsR s) = true
        have := HZ.out
        rwa [hjj, List.take_length] at this
      have hjg : ¬ (j : Int) < ((atomsR s).length : Int) := by omega
      clear hjj HZ HR
      by_cases ho : s.size % 2 = 0
      · have d0 : ((s.size : Int) % 2 == 0) = true := by simp; omega
        by_cases h1 : 1 ≤ (atomsR s).length
        · have d1 : decide (1 ≤ ((atomsR s).length : Int)) = true := by simp; omega
          by_cases h2 : (atomsR s).length ≤ 8
          · have d2 : decide (((atomsR s).length : Int) ≤ 8) = true := by simp; omega
            have HM2 : Hid (mayR s = true) := by
              show mayR s = _
              rw [HM.out, HO.out, d1, d2, HF.out, decide_eq_false (by omega)]; rfl
            clear ho HM HO
            go_wp2_with fail
            go_ret
            exact ⟨by rw [HM2.out]; rfl, hK⟩
          · have d2 : decide (((atomsR s).length : Int) ≤ 8) = false := by simp; omega
            have HM2 : Hid (mayR s = false) := by
              show mayR s = _
              rw [HM.out, HO.out, d1, d2, decide_eq_false (by omega)]; rfl
            clear ho HM HO
            go_wp2_with fail
            go_ret
            exact ⟨by rw [HM2.out]; rfl, hK⟩
        · have d1 : decide (1 ≤ ((atomsR s).length : Int)) = false := by simp; omega
          have HM2 : Hid (mayR s = false) := by
            show mayR s = _
            rw [HM.out, HO.out, d1, decide_eq_false (by omega)]; rfl
          clear ho HM HO
          go_wp2_with fail
          go_ret
          exact ⟨by rw [HM2.out]; rfl, hK⟩
      · have d0 : ((s.size : Int) % 2 == 0) = false := by simp; omega
        have HM2 : Hid (mayR s = false) := by
          show mayR s = _
          rw [HM.out, HO.out, decide_eq_true (by omega)]; rfl
        clear ho HM HO
        go_wp2_with fail
        go_ret
        exact ⟨by rw [HM2.out]; rfl, hK⟩
end Go.Proofs.Ytnicfiochnkjbaa
