/- The word's small functions: contracts. -/
import Derived.Test.YtnmibcmeaakljaaBase
import Derived.Test.YtnmibcmeaakljaaProg
import Derived.BigQuiet
import Derived.KernelRfl
namespace Go.Proofs.Ytnmibcmeaakljaa
open Go.RowKit

def i64 (n : Int) : Prop := -9223372036854775808 ≤ n ∧ n ≤ 9223372036854775807
def u16 (a : Int) : Prop := 0 ≤ a ∧ a ≤ 65535
/-- Has a word an odd number of bytes? -/
def oddR (s : ByteArray) : Bool := decide (s.size % 2 = 1)
/-- How many atoms has a word? -/
def lenR (s : ByteArray) : Int := (s.size : Int) / 2
def withinR (s : ByteArray) (i n : Int) : Bool := decide (0 ≤ i ∧ 0 ≤ n ∧ i ≤ lenR s ∧ n ≤ lenR s - i)
set_option maxRecDepth 100000 in
theorem len_any (s : ByteArray) (w : World) (hs : s.size ≤ maxLen) :
    Calls Try.prog 15 #[.string s] w fun e w' => e = .returned (.int .i64 (lenR s)) ∧ w = w' := by
  unfold maxLen at hs
  go_enter Try.func15, Try.ntmps15
  go_wp2_with fail
  go_ret
  exact ⟨rfl, rfl⟩
set_option maxRecDepth 100000 in
theorem odd_any (s : ByteArray) (w : World) (hs : s.size ≤ maxLen) :
    Calls Try.prog 31 #[.string s] w fun e w' => e = .returned (.bool (oddR s)) ∧ w = w' := by
  unfold maxLen at hs
  have HE : Hid (oddR s = ((s.size : Int) % 2 != 0)) := by
    show oddR s = _
    unfold oddR
    rw [Bool.eq_iff_iff]; simp; omega
  go_enter Try.func31, Try.ntmps31
  go_wp2_with fail
  go_ret
  exact ⟨by rw [HE.out]; rfl, rfl⟩
theorem lenR_bd {s : ByteArray} (hs : s.size ≤ maxLen) : 0 ≤ lenR s ∧ lenR s ≤ 4611686018427387903 := by
  unfold maxLen at hs
  unfold lenR
  omega
set_option maxRecDepth 100000 in
theorem within_any (s : ByteArray) (i n : Int) (w : World) (hs : s.size ≤ maxLen) (hi : i64 i) (hn : i64 n) :
    Calls Try.prog 32 #[.string s, .int .i64 i, .int .i64 n] w fun e w' => e = .returned (.bool (withinR s i n)) ∧ w = w' := by
  have C := len_any s w hs
  obtain ⟨L0, L1⟩ := lenR_bd hs
  have HE : Hid (withinR s i n = decide (0 ≤ i ∧ 0 ≤ n ∧ i ≤ lenR s ∧ n ≤ lenR s - i)) := Lib.hid rfl
  generalize lenR s = L at C L0 L1 HE
  obtain ⟨hi0, hi1⟩ := hi
  obtain ⟨hn0, hn1⟩ := hn
  have CC := Lib.hid C
  clear C hs
  go_enter Try.func32, Try.ntmps32
  by_cases h1 : 0 ≤ i
  · by_cases h2 : 0 ≤ n
    · have d1 : decide (0 ≤ i) = true := by simpa using h1
      have d2 : decide (0 ≤ n) = true := by simpa using h2
      go_wp2_with fail
      refine CC.out.mono ?_
      rintro e w' ⟨rfl, rfl⟩
      by_cases h3 : i ≤ L
      · have d3 : decide (i ≤ L) = true := by simpa using h3
        go_wp2_with fail
        refine CC.out.mono ?_
        rintro e w' ⟨rfl, rfl⟩
        by_cases h4 : n ≤ L - i
        · have d4 : decide (n ≤ L - i) = true := by simpa using h4
          go_wp2_with fail
          go_ret
          exact ⟨by rw [HE.out, decide_eq_true (by omega)]; rfl, rfl⟩
        · have d4 : decide (n ≤ L - i) = false := by simpa using h4
          go_wp2_with fail
          go_ret
          exact ⟨by rw [HE.out, decide_eq_false (by omega)]; rfl, rfl⟩
      · have d3 : decide (i ≤ L) = false := by simpa using h3
        go_wp2_with fail
        go_ret
        exact ⟨by rw [HE.out, decide_eq_false (by omega)]; rfl, rfl⟩
    · have d1 : decide (0 ≤ i) = true := by simpa using h1
      have d2 : decide (0 ≤ n) = false := by simpa using h2
      go_wp2_with fail
      go_ret
      exact ⟨by rw [HE.out, decide_eq_false (by omega)]; rfl, rfl⟩
  · have d1 : decide (0 ≤ i) = false := by simpa using h1
    go_wp2_with fail
    go_ret
    exact ⟨by rw [HE.out, decide_eq_false (by omega)]; rfl, rfl⟩
/-- A part of a word, and whether there is one. -/
def subR (s : ByteArray) (i n : Int) : ByteArray × Int :=
  if oddR s then (⟨#[]⟩, 2) else if withinR s i n then (s.extract (2 * i).toNat (2 * (i + n)).toNat, 0) else (⟨#[]⟩, 5)
set_option maxRecDepth 100000 in
theorem sub_any (s : ByteArray) (i n : Int) (w : World) (hs : s.size ≤ maxLen) (hi : i64 i) (hn : i64 n) :
    Calls Try.prog 11 #[.string s, .int .i64 i, .int .i64 n] w fun e w' => e = .returned (.tuple #[.string (subR s i n).1, .int .i64 (subR s i n).2]) ∧ w = w' := by
  have C1 := odd_any s w hs
  have C2 := within_any s i n w hs hi hn
  go_enter Try.func11, Try.ntmps11
  rcases ho : oddR s with _ | _
  · rw [ho] at C1
    rcases hw : withinR s i n with _ | _
    · rw [hw] at C2
      have HE : Hid (subR s i n = (⟨#[]⟩, 5)) := by show subR s i n = _; unfold subR; rw [ho, hw]; rfl
      have CC1 := Lib.hid C1
      have CC2 := Lib.hid C2
      clear C1 C2 ho hw
      go_wp2_with fail
      refine CC1.out.mono ?_
      rintro e w' ⟨rfl, rfl⟩
      go_wp2_with fail
      refine CC2.out.mono ?_
      rintro e w' ⟨rfl, rfl⟩
      go_wp2_with fail
      go_ret2
      exact ⟨by rw [HE.out]; rfl, rfl⟩
    · rw [hw] at C2
      have HE : Hid (subR s i n = (s.extract (2 * i).toNat (2 * (i + n)).toNat, 0)) := by show subR s i n = _; unfold subR; rw [ho, hw]; rfl
      have hb := of_decide_eq_true hw
      have hL : lenR s = (s.size : Int) / 2 := rfl
      unfold maxLen at hs
      have CC1 := Lib.hid C1
      have CC2 := Lib.hid C2
      obtain ⟨b0, b1, b2, b3⟩ := hb
      have b4 : 2 * (i + n) ≤ (s.size : Int) := by omega
      clear C1 C2 ho hw hL
      go_wp2_with fail
      refine CC1.out.mono ?_
      rintro e w' ⟨rfl, rfl⟩
      go_wp2_with fail
      refine CC2.out.mono ?_
      rintro e w' ⟨rfl, rfl⟩
      go_wp2_with fail
      go_ret2
      exact ⟨by rw [HE.out]; rfl, rfl⟩
  · rw [ho] at C1
    have HE : Hid (subR s i n = (⟨#[]⟩, 2)) := by show subR s i n = _; unfold subR; rw [ho]; rfl
    have CC1 := Lib.hid C1
    clear C1 C2 ho
    go_wp2_with fail
    refine CC1.out.mono ?_
    rintro e w' ⟨rfl, rfl⟩
    go_wp2_with fail
    go_ret2
    exact ⟨by rw [HE.out]; rfl, rfl⟩
/-- Is a word less than another one? -/
def lessR (a b : ByteArray) : Bool := if a.size = b.size then Op.bytesLess a.toList b.toList else decide (a.size < b.size)
set_option maxRecDepth 100000 in
theorem less_any (a b : ByteArray) (w : World) :
    Calls Try.prog 23 #[.string a, .string b] w fun e w' => e = .returned (.bool (lessR a b)) ∧ w = w' := by
  go_enter Try.func23, Try.ntmps23
  by_cases h : a.size = b.size
  · have d : ((a.size : Int) != (b.size : Int)) = false := by simp [h]
    have HE : Hid (lessR a b = Op.bytesLess a.toList b.toList) := by show lessR a b = _; unfold lessR; rw [if_pos h]
    clear h
    go_wp2_with fail
    go_ret
    exact ⟨by rw [HE.out]; rfl, rfl⟩
  · have d : ((a.size : Int) != (b.size : Int)) = true := by simp; omega
    have HE : Hid (lessR a b = decide (a.size < b.size)) := by show lessR a b = _; unfold lessR; rw [if_neg h]
    clear h
    go_wp2_with fail
    go_ret
    exact ⟨by rw [HE.out]; rfl, rfl⟩
end Go.Proofs.Ytnmibcmeaakljaa
