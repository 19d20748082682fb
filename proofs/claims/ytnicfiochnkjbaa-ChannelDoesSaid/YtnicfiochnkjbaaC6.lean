/- The reference's Less. -/
import Derived.Test.YtnicfiochnkjbaaC5
namespace Go.Proofs.Ytnicfiochnkjbaa
open Go.RowKit

/-! ### less, byte by byte -/
theorem less_at : ∀ (k : Nat) (x y : List UInt8), k < x.length → k < y.length → x.take k = y.take k → x.getD k 0 ≠ y.getD k 0 → Op.bytesLess x y = decide (x.getD k 0 < y.getD k 0)
  | 0, a :: x, b :: y, _, _, _, hn => by
    simp only [List.getD_cons_zero] at hn ⊢
    simp [Op.bytesLess, hn]
  | k + 1, a :: x, b :: y, h1, h2, h3, hn => by
    simp only [List.take_succ_cons, List.cons.injEq] at h3
    obtain ⟨rfl, h3⟩ := h3
    have := less_at k x y (by simpa using h1) (by simpa using h2) h3 (by simpa using hn)
    simp only [List.getD_cons_succ]
    rw [← this]
    simp [Op.bytesLess]
  | _, [], _, h, _, _, _ => by simp at h
  | _, _ :: _, [], _, h, _, _ => by simp at h
theorem less_irr : ∀ (x : List UInt8), Op.bytesLess x x = false
  | [] => rfl
  | a :: x => by simp [Op.bytesLess, less_irr x]
theorem byteAt_get {s : ByteArray} {k : Nat} : byteAt s k = ((s.data.toList.getD k 0).toNat : Int) := rfl
theorem byteAt_ne {a b : ByteArray} {k : Nat} : byteAt a k ≠ byteAt b k ↔ a.data.toList.getD k 0 ≠ b.data.toList.getD k 0 := by
  unfold byteAt
  constructor
  · intro h e
    exact h (by rw [e])
  · intro h e
    exact h (UInt8.toNat_inj.1 (by omega))
theorem lessR_at {a b : ByteArray} {k : Nat} (hs : a.size = b.size) (hk : k < a.size) (ht : a.data.toList.take k = b.data.toList.take k) (hn : byteAt a k ≠ byteAt b k) : lessR a b = decide (byteAt a k < byteAt b k) := by
  unfold lessR
  rw [if_pos hs, ByteArray.toList_eq, ByteArray.toList_eq, less_at k _ _ (by rw [size_list]; exact hk) (by rw [size_list]; omega) ht (byteAt_ne.1 hn)]
  unfold byteAt
  rw [Bool.eq_iff_iff]
  simp [UInt8.lt_iff_toNat_lt]
theorem take_byte {a b : ByteArray} {k : Nat} (hs : a.size = b.size) (hk : k < a.size) (ht : a.data.toList.take k = b.data.toList.take k) (he : byteAt a k = byteAt b k) : a.data.toList.take (k + 1) = b.data.toList.take (k + 1) := by
  refine take_eq_succ (by rw [size_list]; exact hk) (by rw [size_list]; omega) ht ?_
  have : a.data.toList.getD k 0 = b.data.toList.getD k 0 := by
    refine UInt8.toNat_inj.1 ?_
    unfold byteAt at he
    omega
  rw [List.getD_eq_getElem?_getD, List.getD_eq_getElem?_getD, List.getElem?_eq_getElem (by rw [size_list]; exact hk), List.getElem?_eq_getElem (by rw [size_list]; omega)] at this
  simpa using this
theorem lessR_same (a : ByteArray) : lessR a a = false := by
  unfold lessR
  rw [if_pos rfl, less_irr]

set_option maxRecDepth 100000 in
set_option maxHeartbeats 1000000 in
theorem rless_any (a b : ByteArray) (w : World) (hs : a.size ≤ 1000000) :
    Calls Try.prog 61 #[.string a, .string b] w fun e w' => e = .returned (.bool (lessR a b)) ∧ ∃ n, w' = w.drewN n := by
  by_cases h : a.size = b.size
  · have d : ((a.size : Int) != (b.size : Int)) = false := by simp [h]
    have HS := Lib.hid h
    clear h
    go_enter Try.func61, Try.ntmps61
    go_wp2_with fail
    go_loopg [5] a.size (fun gk i wr => ∃ j : Nat, j + gk = a.size ∧ i = .int .i64 j ∧ a.data.toList.take j = b.data.toList.take j ∧ ∃ n, wr = w.drewN n)
    case atStart => exact ⟨0, Nat.zero_add _, rfl, rfl, 0, rfl⟩
    case round =>
      obtain ⟨j, hj, rfl, ht, n, rfl⟩ := hrel
      have HT := Lib.hid ht
      clear ht
      by_cases hjl : j < a.size
      · have hb : j < b.size := by rw [← HS.out]; exact hjl
        have x1 : ∀ W, (Instr.index 51 (.string a) (.int .i64 (j : Int))).run Try.prog W = .ok (.int .u8 (byteAt a j)) W := fun W => by
          rw [run_index_string W _ _ _ _ Try.underlying51, dif_pos ⟨by omega, by omega⟩, byteAt_eq hjl]
          rfl
        have x2 : ∀ W, (Instr.index 51 (.string b) (.int .i64 (j : Int))).run Try.prog W = .ok (.int .u8 (byteAt b j)) W := fun W => by
          rw [run_index_string W _ _ _ _ Try.underlying51, dif_pos ⟨by omega, by omega⟩, byteAt_eq hb]
          rfl
        have HN := Lib.hid (lessR_at HS.out hjl HT.out)
        have HE := Lib.hid (take_byte HS.out hjl HT.out)
        generalize byteAt a j = x at x1 HN HE
        generalize byteAt b j = y at x2 HN HE
        by_cases he : x = y
        · have d2 : (x != y) = false := by simp [he]
          have HE2 := Lib.hid (HE.out he)
          clear HN HE he
          go_wp2_with fail
          go_quiet (fail)
          go_wp2_with fail
          go_roundg (gk - 1)
          case measure => omega
          case rel => exact ⟨j + 1, by omega, by go_num, HE2.out, _, rfl⟩
        · have d2 : (x != y) = true := by simpa using he
          have HN2 := Lib.hid (HN.out he)
          clear HN HE he
          go_wp2_with fail
          go_quiet (fail)
          go_wp2_with fail
          go_quiet (fail)
          go_wp2_with fail
          go_ret
          refine ⟨by rw [HN2.out]; rfl, ?_⟩
          simp only [World.drewN_drewN]
          exact ⟨_, rfl⟩
      · have hjj : j = a.size := by omega
        have HE : Hid (lessR a b = false) := by
          have ht := HT.out
          rw [List.take_of_length_le (by rw [size_list]; omega), List.take_of_length_le (by rw [size_list]; have := HS.out; omega)] at ht
          rw [bytes_eq ht]
          exact lessR_same _
        have hjg : ¬ (j : Int) < (a.size : Int) := by omega
        clear hjj
        go_wp2_with fail
        go_ret
        exact ⟨by rw [HE.out]; rfl, n, rfl⟩
  · have d : ((a.size : Int) != (b.size : Int)) = true := by simp; omega
    have HE : Hid (lessR a b = decide (a.size < b.size)) := by show lessR a b = _; unfold lessR; rw [if_neg h]
    clear h
    go_enter Try.func61, Try.ntmps61
    go_wp2_with fail
    go_ret
    exact ⟨by rw [HE.out]; rfl, 0, rfl⟩
end Go.Proofs.Ytnicfiochnkjbaa
