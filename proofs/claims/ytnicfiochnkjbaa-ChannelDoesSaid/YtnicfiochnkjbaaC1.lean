/- The word's small functions: contracts. -/
import Derived.Test.YtnicfiochnkjbaaBase
import Derived.Test.YtnicfiochnkjbaaProg
import Derived.BigQuiet
import Derived.KernelRfl
namespace Go.Proofs.Ytnicfiochnkjbaa
open Go.RowKit

def i64 (n : Int) : Prop := -9223372036854775808 ≤ n ∧ n ≤ 9223372036854775807
def u16 (a : Int) : Prop := 0 ≤ a ∧ a ≤ 65535
/-- Has a word an odd number of bytes? -/
def oddR (s : ByteArray) : Bool := decide (s.size % 2 = 1)
/-- How many atoms has a word? -/
def lenR (s : ByteArray) : Int := (s.size : Int) / 2
set_option maxRecDepth 100000 in
theorem len_any (s : ByteArray) (w : World) (hs : s.size ≤ maxLen) :
    Calls Try.prog 73 #[.string s] w fun e w' => e = .returned (.int .i64 (lenR s)) ∧ w = w' := by
  unfold maxLen at hs
  go_enter Try.func73, Try.ntmps73
  go_wp2_with fail
  go_ret
  exact ⟨rfl, rfl⟩
set_option maxRecDepth 100000 in
theorem odd_any (s : ByteArray) (w : World) (hs : s.size ≤ maxLen) :
    Calls Try.prog 72 #[.string s] w fun e w' => e = .returned (.bool (oddR s)) ∧ w = w' := by
  unfold maxLen at hs
  have HE : Hid (oddR s = ((s.size : Int) % 2 != 0)) := by
    show oddR s = _
    unfold oddR
    rw [Bool.eq_iff_iff]; simp; omega
  go_enter Try.func72, Try.ntmps72
  go_wp2_with fail
  go_ret
  exact ⟨by rw [HE.out]; rfl, rfl⟩
theorem lenR_bd {s : ByteArray} (hs : s.size ≤ maxLen) : 0 ≤ lenR s ∧ lenR s ≤ 4611686018427387903 := by
  unfold maxLen at hs
  unfold lenR
  omega
/-- Is a word less than another one? -/
def lessR (a b : ByteArray) : Bool := if a.size = b.size then Op.bytesLess a.toList b.toList else decide (a.size < b.size)
set_option maxRecDepth 100000 in
theorem less_any (a b : ByteArray) (w : World) :
    Calls Try.prog 67 #[.string a, .string b] w fun e w' => e = .returned (.bool (lessR a b)) ∧ w = w' := by
  go_enter Try.func67, Try.ntmps67
  by_cases h : a.size = b.size
  · have d : ((a.size : Int) != (b.size : Int)) = false := by simp [h]
    have HE : Hid (lessR a b = Op.bytesLess a.toList b.toList) := by show lessR a b = _; unfold lessR; rw [if_pos h]
    clear h
    go_wp2_with fail
    go_ret
    exact ⟨by rw [HE.out]; rfl, rfl⟩
  · have d : ((a.size : Int) != (b.size : Int)) = true := by simp; omega
    have HE : Hid (lessR a b = decide (a.size < b.size)) := by show lessR a b = _; unfold lessR; rw [if_neg h]
    clear h
    go_wp2_with fail
    go_ret
    exact ⟨by rw [HE.out]; rfl, rfl⟩
end Go.Proofs.Ytnicfiochnkjbaa
