/- Swap; the reference's Cat and Swap. -/
import Derived.Test.YtnmibcmeaakljaaW9
import Derived.Test.YtnmibcmeaakljaaApp
namespace Go.Proofs.Ytnmibcmeaakljaa
open Go.RowKit

def swapR (s : ByteArray) (i n : Int) (v : ByteArray) : ByteArray × Int :=
  if oddR s || oddR v then (⟨#[]⟩, 2) else if withinR s i n then (if 8 < lenR s - n + lenR v then (⟨#[]⟩, 4) else (s.extract 0 (2 * i).toNat ++ v ++ s.extract (2 * (i + n)).toNat s.size, 0)) else (⟨#[]⟩, 5)

set_option maxRecDepth 100000 in
set_option maxHeartbeats 1000000 in
theorem swap_any (s : ByteArray) (i n : Int) (v : ByteArray) (w : World) (hs : s.size ≤ 1000000) (hv : v.size ≤ 1000000) (hi : i64 i) (hn : i64 n) :
    Calls Try.prog 29 #[.string s, .int .i64 i, .int .i64 n, .string v] w fun e w' => e = .returned (.tuple #[.string (swapR s i n v).1, .int .i64 (swapR s i n v).2]) ∧ ∃ k, w' = w.drewN k := by
  have hms : s.size ≤ maxLen := by unfold maxLen; omega
  have hmv : v.size ≤ maxLen := by unfold maxLen; omega
  have C1 := odd_any s w hms
  have C2 := odd_any v w hmv
  have C3 := within_any s i n w hms hi hn
  have C4 := Lib.hid (len_any s w hms)
  have C5 := Lib.hid (len_any v w hmv)
  have L0 := lenR_nn s
  have L1 : lenR s ≤ 500000 := by unfold lenR; omega
  have M0 := lenR_nn v
  have M1 : lenR v ≤ 500000 := by unfold lenR; omega
  have hL : 2 * lenR s ≤ (s.size : Int) := by unfold lenR; omega
  have HE : Hid (swapR s i n v = if oddR s || oddR v then (⟨#[]⟩, 2) else if withinR s i n then (if 8 < lenR s - n + lenR v then (⟨#[]⟩, 4) else (s.extract 0 (2 * i).toNat ++ v ++ s.extract (2 * (i + n)).toNat s.size, 0)) else (⟨#[]⟩, 5)) := Lib.hid rfl
  have HW : Hid (withinR s i n = decide (0 ≤ i ∧ 0 ≤ n ∧ i ≤ lenR s ∧ n ≤ lenR s - i)) := Lib.hid rfl
  rcases ho : oddR s with _ | _
  · rw [ho] at C1 HE
    rcases ho2 : oddR v with _ | _
    · rw [ho2] at C2 HE
      rcases hw : withinR s i n with _ | _
      · rw [hw] at C3 HE
        have HE2 : Hid (swapR s i n v = (⟨#[]⟩, 5)) := HE.out
        have D1 := Lib.hid C1
        have D2 := Lib.hid C2
        have D3 := Lib.hid C3
        clear C1 C2 C3 HE ho ho2 hw HW
        go_enter Try.func29, Try.ntmps29
        go_wp2_with fail
        refine D1.out.mono ?_
        rintro e w' ⟨rfl, rfl⟩
        go_wp2_with fail
        refine D2.out.mono ?_
        rintro e w' ⟨rfl, rfl⟩
        go_wp2_with fail
        refine D3.out.mono ?_
        rintro e w' ⟨rfl, rfl⟩
        go_wp2_with fail
        go_ret2
        exact ⟨by rw [HE2.out]; rfl, 0, rfl⟩
      · rw [hw] at C3 HE
        have hb := HW.out
        rw [hw] at hb
        obtain ⟨b0, b1, b2, b3⟩ := of_decide_eq_true hb.symm
        have D1 := Lib.hid C1
        have D2 := Lib.hid C2
        have D3 := Lib.hid C3
        clear C1 C2 C3 ho ho2 hw HW hb
        by_cases h8 : 8 < lenR s - n + lenR v
        · have HE2 : Hid (swapR s i n v = (⟨#[]⟩, 4)) := by have h := HE.out; simp only [Bool.or_self, Bool.false_eq_true, if_false, if_true] at h; rw [if_pos h8] at h; exact h
          clear HE
          generalize lenR s = L at *
          generalize lenR v = M at *
          go_enter Try.func29, Try.ntmps29
          go_wp2_with fail
          refine D1.out.mono ?_
          rintro e w' ⟨rfl, rfl⟩
          go_wp2_with fail
          refine D2.out.mono ?_
          rintro e w' ⟨rfl, rfl⟩
          go_wp2_with fail
          refine D3.out.mono ?_
          rintro e w' ⟨rfl, rfl⟩
          go_wp2_with fail
          refine C4.out.mono ?_
          rintro e w' ⟨rfl, rfl⟩
          go_wp2_with fail
          refine C5.out.mono ?_
          rintro e w' ⟨rfl, rfl⟩
          go_wp2_with fail
          go_ret2
          exact ⟨by rw [HE2.out]; rfl, 0, rfl⟩
        · have HE2 : Hid (swapR s i n v = (s.extract 0 (2 * i).toNat ++ v ++ s.extract (2 * (i + n)).toNat s.size, 0)) := by have h := HE.out; simp only [Bool.or_self, Bool.false_eq_true, if_false, if_true] at h; rw [if_neg h8] at h; exact h
          clear HE
          generalize lenR s = L at *
          generalize lenR v = M at *
          have z1 : (s.extract 0 (2 * i).toNat).size ≤ 1000000 := by rw [ByteArray.size_extract]; omega
          have z2 : (s.extract (2 * (i + n)).toNat s.size).size ≤ 1000000 := by rw [ByteArray.size_extract]; omega
          have x1 : ∀ W, (Instr.slice 22 (.string s) none (some (.int .i64 (2 * i))) none).run Try.prog W = .ok (.string (s.extract 0 (2 * i).toNat)) W := fun W => run_slice_string_h W _ _ Try.underlying22 _ _ (by omega) (by omega)
          have x2 : ∀ W, (Instr.slice 22 (.string s) (some (.int .i64 (2 * (i + n)))) none none).run Try.prog W = .ok (.string (s.extract (2 * (i + n)).toNat s.size)) W := fun W => run_slice_string_l W _ _ Try.underlying22 _ _ (by omega) (by omega)
          generalize s.extract 0 (2 * i).toNat = p1 at *
          generalize s.extract (2 * (i + n)).toNat s.size = p2 at *
          have z3 : (p1 ++ v).size ≤ 2000000 := by rw [ByteArray.size_append]; omega
          have k1 : IntKind.i64.wrap (2 * i) = 2 * i := by rw [IntKind.wrap_i64]; omega
          have k2 : IntKind.i64.wrap (i + n) = i + n := by rw [IntKind.wrap_i64]; omega
          have k3 : IntKind.i64.wrap (2 * (i + n)) = 2 * (i + n) := by rw [IntKind.wrap_i64]; omega
          go_enter Try.func29, Try.ntmps29
          go_wp2_with fail
          refine D1.out.mono ?_
          rintro e w' ⟨rfl, rfl⟩
          go_wp2_with fail
          refine D2.out.mono ?_
          rintro e w' ⟨rfl, rfl⟩
          go_wp2_with fail
          refine D3.out.mono ?_
          rintro e w' ⟨rfl, rfl⟩
          go_wp2_with fail
          refine C4.out.mono ?_
          rintro e w' ⟨rfl, rfl⟩
          go_wp2_with fail
          refine C5.out.mono ?_
          rintro e w' ⟨rfl, rfl⟩
          go_wp2_with fail
          go_quiet (fail)
          go_wp2_with fail
          go_ret2
          exact ⟨by rw [HE2.out]; rfl, nq, rfl⟩
    · rw [ho2] at C2 HE
      have HE2 : Hid (swapR s i n v = (⟨#[]⟩, 2)) := HE.out
      have D1 := Lib.hid C1
      have D2 := Lib.hid C2
      clear C1 C2 C3 HE ho ho2 HW
      go_enter Try.func29, Try.ntmps29
      go_wp2_with fail
      refine D1.out.mono ?_
      rintro e w' ⟨rfl, rfl⟩
      go_wp2_with fail
      refine D2.out.mono ?_
      rintro e w' ⟨rfl, rfl⟩
      go_wp2_with fail
      go_ret2
      exact ⟨by rw [HE2.out]; rfl, 0, rfl⟩
  · rw [ho] at C1 HE
    have HE2 : Hid (swapR s i n v = (⟨#[]⟩, 2)) := by have h := HE.out; rw [Bool.true_or] at h; exact h
    have D1 := Lib.hid C1
    clear C1 C2 C3 HE ho HW
    go_enter Try.func29, Try.ntmps29
    go_wp2_with fail
    refine D1.out.mono ?_
    rintro e w' ⟨rfl, rfl⟩
    go_wp2_with fail
    go_ret2
    exact ⟨by rw [HE2.out]; rfl, 0, rfl⟩
end Go.Proofs.Ytnmibcmeaakljaa
