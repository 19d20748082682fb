/- The word's At. -/
import Derived.Test.YtnicfiochnkjbaaC1
import Derived.Laws.BitsLemmas
namespace Go.Proofs.Ytnicfiochnkjbaa
open Go.RowKit
theorem wraps_u16 (n : Int) (h₀ : 0 ≤ n) (h₁ : n < 2 ^ 16) : IntKind.u16.wrap n = n := by
  rw [show IntKind.u16.wrap n = n % 65536 by simp [IntKind.wrap, IntKind.bits, IntKind.signed]]
  omega
theorem u16_or8 {a b : Int} (a0 : 0 ≤ a) (a1 : a ≤ 255) (b0 : 0 ≤ b) (b1 : b ≤ 255) : bits .or .u16 (a * 256) b = a * 256 + b :=
  bits_join .u16 16 (by decide) wraps_u16 8 (a * 256) b (by omega) (by omega) (by omega) b0 (by omega) (by omega)
/-- A byte of a word, as a number. -/
def byteAt (s : ByteArray) (i : Nat) : Int := ((s.data.toList.getD i 0).toNat : Int)
theorem byteAt_eq {s : ByteArray} {i : Nat} (h : i < s.size) : byteAt s i = (s[i].toNat : Int) := by
  unfold byteAt
  rw [List.getD_eq_getElem?_getD, List.getElem?_eq_getElem (by simpa using h)]
  rfl
theorem byteAt_bd (s : ByteArray) (i : Nat) : 0 ≤ byteAt s i ∧ byteAt s i ≤ 255 := by
  unfold byteAt
  have := (s.data.toList.getD i 0).toNat_lt
  omega
/-- A word's atom at a place. -/
def atR (s : ByteArray) (i : Int) : Int := if 0 ≤ i ∧ i < lenR s then byteAt s (2 * i).toNat * 256 + byteAt s (2 * i + 1).toNat else 0
set_option maxRecDepth 100000 in
theorem at_any (s : ByteArray) (i : Int) (w : World) (hs : s.size ≤ maxLen) (hi : i64 i) :
    Calls Try.prog 74 #[.string s, .int .i64 i] w fun e w' => e = .returned (.int .u16 (atR s i)) ∧ ∃ n, w' = w.drewN n := by
  have C := len_any s w hs
  obtain ⟨hi0, hi1⟩ := hi
  obtain ⟨L0, L1⟩ := lenR_bd hs
  have hL : lenR s = (s.size : Int) / 2 := rfl
  go_enter Try.func74, Try.ntmps74
  by_cases h1 : 0 ≤ i
  · by_cases h2 : i < lenR s
    · have HE : Hid (atR s i = byteAt s (2 * i).toNat * 256 + byteAt s (2 * i + 1).toNat) := by show atR s i = _; unfold atR; rw [if_pos ⟨h1, h2⟩]
      have d1 : decide (i < 0) = false := by simpa using h1
      have d2 : decide (lenR s ≤ i) = false := by simp; omega
      have h3 : 2 * i + 1 < (s.size : Int) := by omega
      unfold maxLen at hs
      have x1 : ∀ W, (Instr.index 51 (.string s) (.int .i64 (2 * i))).run Try.prog W = .ok (.int .u8 (byteAt s (2 * i).toNat)) W := fun W => by
        rw [run_index_string W _ _ _ _ Try.underlying51, dif_pos ⟨by omega, by omega⟩, byteAt_eq]
      have x2 : ∀ W, (Instr.index 51 (.string s) (.int .i64 (2 * i + 1))).run Try.prog W = .ok (.int .u8 (byteAt s (2 * i + 1).toNat)) W := fun W => by
        rw [run_index_string W _ _ _ _ Try.underlying51, dif_pos ⟨by omega, by omega⟩, byteAt_eq]
      obtain ⟨a0, a1⟩ := byteAt_bd s (2 * i).toNat
      obtain ⟨b0, b1⟩ := byteAt_bd s (2 * i + 1).toNat
      generalize byteAt s (2 * i).toNat = a at x1 a0 a1 HE
      generalize byteAt s (2 * i + 1).toNat = b at x2 b0 b1 HE
      generalize lenR s = L at C d2 L0 L1 h2
      have CC := Lib.hid C
      have k1 : IntKind.i64.wrap (2 * i) = 2 * i := by rw [IntKind.wrap_i64]; omega
      have k2 := u16_or8 a0 a1 b0 b1
      clear C hL
      go_wp2_with fail
      refine CC.out.mono ?_
      rintro e w' ⟨rfl, rfl⟩
      go_wp2_with fail
      go_quiet (fail)
      go_wp2_with fail
      go_ret
      exact ⟨by rw [HE.out]; rfl, nq, rfl⟩
    · have HE : Hid (atR s i = 0) := by show atR s i = _; unfold atR; rw [if_neg (by omega)]
      have d1 : decide (i < 0) = false := by simpa using h1
      have d2 : decide (lenR s ≤ i) = true := by simp; omega
      have CC := Lib.hid C
      generalize lenR s = L at CC d2
      clear C hL
      go_wp2_with fail
      refine CC.out.mono ?_
      rintro e w' ⟨rfl, rfl⟩
      go_wp2_with fail
      go_ret
      exact ⟨by rw [HE.out]; rfl, 0, rfl⟩
  · have HE : Hid (atR s i = 0) := by show atR s i = _; unfold atR; rw [if_neg (by omega)]
    have d1 : decide (i < 0) = true := by simp; omega
    clear C hL
    go_wp2_with fail
    go_ret
    exact ⟨by rw [HE.out]; rfl, 0, rfl⟩
end Go.Proofs.Ytnicfiochnkjbaa
