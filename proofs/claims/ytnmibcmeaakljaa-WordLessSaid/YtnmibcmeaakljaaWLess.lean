/- WordLess: the walk. -/
import Derived.Test.YtnmibcmeaakljaaW13
namespace Go.Proofs.Ytnmibcmeaakljaa
open Go.RowKit

theorem bl_asymm : ∀ x y : List UInt8, Op.bytesLess x y = true → Op.bytesLess y x = false
  | [], [], h => by simp [Op.bytesLess] at h
  | [], _ :: _, _ => by simp [Op.bytesLess]
  | _ :: _, [], h => by simp [Op.bytesLess] at h
  | a :: x, b :: y, h => by
    simp only [Op.bytesLess] at h ⊢
    by_cases hab : a = b
    · subst hab
      have := bl_asymm x y (by simpa using h)
      simpa using this
    · have h1 : a < b := by simpa [hab] using h
      have h2 : ¬ b < a := by rw [UInt8.lt_iff_toNat_lt] at *; omega
      simp [Ne.symm hab, h2]
theorem bl_total : ∀ x y : List UInt8, x.length = y.length → Op.bytesLess x y = false → Op.bytesLess y x = false → x = y
  | [], [], _, _, _ => rfl
  | [], _ :: _, h, _, _ => by simp at h
  | _ :: _, [], h, _, _ => by simp at h
  | a :: x, b :: y, hl, h1, h2 => by
    simp only [Op.bytesLess] at h1 h2
    by_cases hab : a = b
    · subst hab
      rw [bl_total x y (by simpa using hl) (by simpa using h1) (by simpa using h2)]
    · have e1 : ¬ a < b := by simpa [hab] using h1
      have e2 : ¬ b < a := by simpa [Ne.symm hab] using h2
      exact absurd (UInt8.toNat_inj.1 (by rw [UInt8.lt_iff_toNat_lt] at *; omega)) hab
theorem bl_trans : ∀ x y z : List UInt8, Op.bytesLess x y = true → Op.bytesLess y z = true → Op.bytesLess x z = true
  | [], _, [], _, h => by cases ‹List UInt8› <;> simp [Op.bytesLess] at h
  | [], _, _ :: _, _, _ => by simp [Op.bytesLess]
  | _ :: _, [], _, h, _ => by simp [Op.bytesLess] at h
  | _ :: _, _ :: _, [], _, h => by simp [Op.bytesLess] at h
  | a :: x, b :: y, c :: z, h1, h2 => by
    simp only [Op.bytesLess] at h1 h2 ⊢
    by_cases hab : a = b
    · subst hab
      by_cases hbc : a = c
      · subst hbc
        have := bl_trans x y z (by simpa using h1) (by simpa using h2)
        simpa using this
      · simpa [hbc] using h2
    · have e1 : a < b := by simpa [hab] using h1
      by_cases hbc : b = c
      · subst hbc
        simpa [hab] using h1
      · have e2 : b < c := by simpa [hbc] using h2
        have e3 : a < c := by rw [UInt8.lt_iff_toNat_lt] at *; omega
        simp [e3]
theorem bl_ahead : ∀ c x y : List UInt8, Op.bytesLess (c ++ x) (c ++ y) = Op.bytesLess x y
  | [], _, _ => rfl
  | a :: c, x, y => by
    have := bl_ahead c x y
    simp [Op.bytesLess, this]
theorem lessR_asymm {a b : ByteArray} (h : lessR a b = true) : lessR b a = false := by
  unfold lessR at *
  by_cases hs : a.size = b.size
  · rw [if_pos hs] at h
    rw [if_pos hs.symm]
    exact bl_asymm _ _ h
  · rw [if_neg hs] at h
    rw [if_neg (Ne.symm hs)]
    simp at h ⊢
    omega
theorem lessR_total {a b : ByteArray} (h1 : lessR a b = false) (h2 : lessR b a = false) : a = b := by
  unfold lessR at *
  by_cases hs : a.size = b.size
  · rw [if_pos hs] at h1
    rw [if_pos hs.symm] at h2
    exact bytes_inj.1 (bl_total _ _ (by rw [ByteArray.toList_eq, ByteArray.toList_eq, size_list, size_list]; exact hs) h1 h2)
  · rw [if_neg hs] at h1
    rw [if_neg (Ne.symm hs)] at h2
    simp at h1 h2
    omega
theorem lessR_trans {a b c : ByteArray} (h1 : lessR a b = true) (h2 : lessR b c = true) : lessR a c = true := by
  unfold lessR at *
  by_cases hs : a.size = b.size
  · rw [if_pos hs] at h1
    by_cases ht : b.size = c.size
    · rw [if_pos ht] at h2
      rw [if_pos (by omega)]
      exact bl_trans _ _ _ h1 h2
    · rw [if_neg ht] at h2
      rw [if_neg (by omega)]
      simp at h2 ⊢
      omega
  · rw [if_neg hs] at h1
    by_cases ht : b.size = c.size
    · rw [if_pos ht] at h2
      rw [if_neg (by omega)]
      simp at h1 ⊢
      omega
    · rw [if_neg ht] at h2
      simp at h1 h2
      rw [if_neg (by omega)]
      simp
      omega
theorem lessR_ahead (a b c : ByteArray) : lessR (c ++ a) (c ++ b) = lessR a b := by
  unfold lessR
  rw [ByteArray.size_append, ByteArray.size_append]
  by_cases hs : a.size = b.size
  · rw [if_pos hs, if_pos (by omega), ByteArray.toList_eq, ByteArray.toList_eq, append_list, append_list, bl_ahead, ByteArray.toList_eq, ByteArray.toList_eq]
  · rw [if_neg hs, if_neg (by omega)]
    rw [Bool.eq_iff_iff]
    simp
/-- What the law asks of the four answers. -/
theorem less_cases (a b : ByteArray) : (lessR a b = true ∧ lessR b a = false ∧ a ≠ b) ∨ (lessR a b = false ∧ lessR b a = true ∧ a ≠ b) ∨ (lessR a b = false ∧ lessR b a = false ∧ a = b) := by
  rcases h1 : lessR a b with _ | _
  · rcases h2 : lessR b a with _ | _
    · exact .inr (.inr ⟨rfl, rfl, lessR_total h1 h2⟩)
    · exact .inr (.inl ⟨rfl, rfl, by rintro rfl; rw [h1] at h2; cases h2⟩)
  · have h2 := lessR_asymm h1
    exact .inl ⟨rfl, h2, by rintro rfl; rw [h1] at h2; cases h2⟩

set_option maxRecDepth 100000 in
set_option maxHeartbeats 2000000 in
theorem less_walk (a b c : ByteArray) (w : World) (ha : a.size ≤ maxLen) (hb : b.size ≤ maxLen) (hc : c.size ≤ maxLen) :
    Calls Try.prog 6 #[.string a, .string b, .string c] w fun e w' => e = .returned (.bool true) ∧ Kept w w' := by
  unfold maxLen at ha hb hc
  have AW := Lib.hid (awake_any w)
  by_cases hg : a.size ≤ 4096 ∧ b.size ≤ 4096 ∧ c.size ≤ 4096
  · obtain ⟨g1, g2, g3⟩ := hg
    have d1 : decide ((4096 : Int) < (a.size : Int)) = false := by rw [decide_eq_false_iff_not]; omega
    have d2 : decide ((4096 : Int) < (b.size : Int)) = false := by rw [decide_eq_false_iff_not]; omega
    have d3 : decide ((4096 : Int) < (c.size : Int)) = false := by rw [decide_eq_false_iff_not]; omega
    have C1 := fun W => less_any a b W
    have C2 := fun W => less_any b a W
    have C3 := fun W => less_any b c W
    have C4 := fun W => less_any a c W
    have C5 := fun W => less_any (c ++ a) (c ++ b) W
    have z1 : (c ++ a).size ≤ 10000 := by rw [ByteArray.size_append]; omega
    have z2 : (c ++ b).size ≤ 10000 := by rw [ByteArray.size_append]; omega
    rw [lessR_ahead] at C5
    rcases less_cases a b with ⟨h1, h2, h3⟩ | ⟨h1, h2, h3⟩ | ⟨h1, h2, rfl⟩
    · have q : (a.toList == b.toList) = false := by rw [bytes_beq]; simpa using h3
      rw [h1] at C1 C5
      rw [h2] at C2
      rcases h4 : lessR b c with _ | _
      · rw [h4] at C3
        have D1 := Lib.hid C1
        have D2 := Lib.hid C2
        have D3 := Lib.hid C3
        have D5 := Lib.hid C5
        clear C1 C2 C3 C4 C5 h1 h2 h3 h4
        go_enter Try.func6, Try.ntmps6
        go_wp2_with (first | (go_at_call 10; refine AW.out.mono ?_; rintro e w1 ⟨rfl, hK⟩; clear AW) | (go_at_call 23; (with_reducible refine (D1.out _).mono ?_); rintro e w2 ⟨rfl, rfl⟩) | (go_at_call 23; (with_reducible refine (D2.out _).mono ?_); rintro e w2 ⟨rfl, rfl⟩) | (go_at_call 23; (with_reducible refine (D3.out _).mono ?_); rintro e w2 ⟨rfl, rfl⟩) | (go_at_call 23; (with_reducible refine (D5.out _).mono ?_); rintro e w2 ⟨rfl, rfl⟩))
        go_ret
        exact ⟨rfl, hK⟩
      · rw [h4] at C3
        rw [lessR_trans h1 h4] at C4
        have D1 := Lib.hid C1
        have D2 := Lib.hid C2
        have D3 := Lib.hid C3
        have D4 := Lib.hid C4
        have D5 := Lib.hid C5
        clear C1 C2 C3 C4 C5 h1 h2 h3 h4
        go_enter Try.func6, Try.ntmps6
        go_wp2_with (first | (go_at_call 10; refine AW.out.mono ?_; rintro e w1 ⟨rfl, hK⟩; clear AW) | (go_at_call 23; (with_reducible refine (D1.out _).mono ?_); rintro e w2 ⟨rfl, rfl⟩) | (go_at_call 23; (with_reducible refine (D2.out _).mono ?_); rintro e w2 ⟨rfl, rfl⟩) | (go_at_call 23; (with_reducible refine (D3.out _).mono ?_); rintro e w2 ⟨rfl, rfl⟩) | (go_at_call 23; (with_reducible refine (D4.out _).mono ?_); rintro e w2 ⟨rfl, rfl⟩) | (go_at_call 23; (with_reducible refine (D5.out _).mono ?_); rintro e w2 ⟨rfl, rfl⟩))
        go_ret
        exact ⟨rfl, hK⟩
    · have q : (a.toList == b.toList) = false := by rw [bytes_beq]; simpa using h3
      rw [h1] at C1 C5
      rw [h2] at C2
      have D1 := Lib.hid C1
      have D2 := Lib.hid C2
      have D5 := Lib.hid C5
      clear C1 C2 C3 C4 C5 h1 h2 h3
      go_enter Try.func6, Try.ntmps6
      go_wp2_with (first | (go_at_call 10; refine AW.out.mono ?_; rintro e w1 ⟨rfl, hK⟩; clear AW) | (go_at_call 23; (with_reducible refine (D1.out _).mono ?_); rintro e w2 ⟨rfl, rfl⟩) | (go_at_call 23; (with_reducible refine (D2.out _).mono ?_); rintro e w2 ⟨rfl, rfl⟩) | (go_at_call 23; (with_reducible refine (D5.out _).mono ?_); rintro e w2 ⟨rfl, rfl⟩))
      go_ret
      exact ⟨rfl, hK⟩
    · have q : (a.toList == a.toList) = true := by simp
      rw [h1] at C1 C5
      have D1 := Lib.hid C1
      have D5 := Lib.hid C5
      clear C1 C2 C3 C4 C5 h1 h2
      go_enter Try.func6, Try.ntmps6
      go_wp2_with (first | (go_at_call 10; refine AW.out.mono ?_; rintro e w1 ⟨rfl, hK⟩; clear AW) | (go_at_call 23; (with_reducible refine (D1.out _).mono ?_); rintro e w2 ⟨rfl, rfl⟩) | (go_at_call 23; (with_reducible refine (D5.out _).mono ?_); rintro e w2 ⟨rfl, rfl⟩))
      go_ret
      exact ⟨rfl, hK⟩
  · rcases Nat.lt_or_ge 4096 a.size with g1 | g1
    · have d1 : decide ((4096 : Int) < (a.size : Int)) = true := by rw [decide_eq_true_eq]; omega
      clear hg
      go_enter Try.func6, Try.ntmps6
      go_wp2_with (first | (go_at_call 10; refine AW.out.mono ?_; rintro e w1 ⟨rfl, hK⟩; clear AW))
      go_ret
      exact ⟨rfl, hK⟩
    · have d1 : decide ((4096 : Int) < (a.size : Int)) = false := by rw [decide_eq_false_iff_not]; omega
      rcases Nat.lt_or_ge 4096 b.size with g2 | g2
      · have d2 : decide ((4096 : Int) < (b.size : Int)) = true := by rw [decide_eq_true_eq]; omega
        clear hg
        go_enter Try.func6, Try.ntmps6
        go_wp2_with (first | (go_at_call 10; refine AW.out.mono ?_; rintro e w1 ⟨rfl, hK⟩; clear AW))
        go_ret
        exact ⟨rfl, hK⟩
      · have d2 : decide ((4096 : Int) < (b.size : Int)) = false := by rw [decide_eq_false_iff_not]; omega
        have d3 : decide ((4096 : Int) < (c.size : Int)) = true := by rw [decide_eq_true_eq]; omega
        clear hg
        go_enter Try.func6, Try.ntmps6
        go_wp2_with (first | (go_at_call 10; refine AW.out.mono ?_; rintro e w1 ⟨rfl, hK⟩; clear AW))
        go_ret
        exact ⟨rfl, hK⟩
end Go.Proofs.Ytnmibcmeaakljaa
