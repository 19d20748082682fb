/- The law's helper texts: two lists of strings held against each other. -/
import Derived.Test.YtkldepflfomegaaLaw
namespace Go.Proofs.Ytkldepflfomegaa
open Go.RowKit
open Go.Maps (Keyed)

theorem take_eq_succ {α : Type} {xs ys : List α} {j : Nat} (hx : j < xs.length) (hy : j < ys.length) (h : xs.take j = ys.take j) (e : xs[j] = ys[j]) : xs.take (j + 1) = ys.take (j + 1) := by
  rw [List.take_succ_eq_append_getElem hx, List.take_succ_eq_append_getElem hy, h, e]

set_option maxRecDepth 100000 in
set_option maxHeartbeats 1000000 in
theorem texts_any (A1 A2 : Option Addr) (c1 c2 B1 B2 : Nat) (xs ys : List ByteArray) (w : World) (_hx : xs.length ≤ 140737488351232) (_hy : ys.length ≤ 140737488351232) (h1 : ReadsT .string w B1 1 A1 xs) (h2 : ReadsT .string w B2 1 A2 ys) :
    Calls Try.prog 27 #[.slice A1 xs.length c1, .slice A2 ys.length c2] w fun e w' => e = .returned (.bool (decide (xs = ys))) ∧ ∃ n, w' = w.drewN n := by
  by_cases hl : xs.length = ys.length
  · have hlb : ((xs.length : Int) != (ys.length : Int)) = false := by simp [hl]
    have HL := Lib.hid hl
    have hl' : xs.length ≤ ys.length := by omega
    clear hl
    go_enter Try.func27, Try.ntmps27
    go_wp2_with fail
    go_loopg [13] xs.length (fun gk i wr => ∃ j : Nat, j + gk = xs.length ∧ i = .int .i64 j ∧ xs.take j = ys.take j ∧ ∃ n, wr = w.drewN n)
    case atStart => exact ⟨0, Nat.zero_add _, rfl, rfl, 0, rfl⟩
    case round =>
      obtain ⟨j, hj, rfl, heq, n, rfl⟩ := hrel
      by_cases hjl : j < xs.length
      · obtain ⟨b1, o1, rfl, _, hc1⟩ := h1 j hjl
        obtain ⟨b2, o2, rfl, _, hc2⟩ := h2 j (by omega)
        have d1 : w.cell? ⟨b1, o1 + j, none⟩ = some (.string xs[j]) := by simpa [Value.cells] using hc1 0 (by omega)
        have d2 : w.cell? ⟨b2, o2 + j, none⟩ = some (.string (ys[j]'(by omega))) := by simpa [Value.cells] using hc2 0 (by omega)
        have HQ := Lib.hid heq
        obtain ⟨x, hxx⟩ : ∃ x, x = xs[j] := ⟨_, rfl⟩
        obtain ⟨y, hyy⟩ : ∃ y, y = ys[j]'(by omega) := ⟨_, rfl⟩
        rw [← hxx] at d1
        rw [← hyy] at d2
        have HX := Lib.hid hxx
        have HY := Lib.hid hyy
        have i0 : (0 : Int) ≤ (j : Int) := by omega
        have i1 : (j : Int) < (xs.length : Int) := by omega
        have i2 : (j : Int) < (ys.length : Int) := by omega
        clear hc1 hc2 h1 h2 heq hxx hyy
        by_cases he : x = y
        · have hb : (x.toList == y.toList) = true := by rw [he]; simp
          have hb2 : (x.toList != y.toList) = false := by rw [he]; simp
          have HE := Lib.hid he
          clear he
          go_wp2_with fail
          go_quiet (fail)
          go_wp2_with fail
          go_roundg (gk - 1)
          case measure => omega
          case rel => exact ⟨j + 1, by omega, by go_num, take_eq_succ hjl (by omega) HQ.out (by rw [← HX.out, ← HY.out, HE.out]), _, rfl⟩
        · have hne : ¬ x.toList = y.toList := fun h => he (bytes_inj.1 h)
          have hb : (x.toList == y.toList) = false := by simpa using hne
          have hb2 : (x.toList != y.toList) = true := by simpa using hne
          have HE := Lib.hid he
          clear he hne
          go_wp2_with fail
          go_quiet (fail)
          go_wp2_with fail
          go_ret
          refine ⟨?_, n + nq, by rw [World.drewN_drewN]⟩
          rw [decide_eq_false]
          · rfl
          · intro h
            refine HE.out ?_
            rw [HX.out, HY.out]
            simp only [h]
      · have hjj : j = xs.length := by omega
        clear h1 h2
        have HR : Hid (xs = ys) := by
          rw [hjj, List.take_length, List.take_of_length_le (by have := HL.out; omega)] at heq
          exact heq
        clear heq
        go_wp2_with fail
        go_ret
        exact ⟨by rw [decide_eq_true HR.out]; rfl, _, rfl⟩
  · have hlb : ((xs.length : Int) != (ys.length : Int)) = true := by simp; omega
    have HR : Hid (decide (xs = ys) = false) := decide_eq_false (fun h => hl (by rw [h]))
    clear hl
    go_enter Try.func27, Try.ntmps27
    go_wp2_with fail
    go_ret
    exact ⟨by rw [HR.out]; rfl, 0, rfl⟩
end Go.Proofs.Ytkldepflfomegaa
