/- WordCats: the walk. -/
import Derived.Test.YtnmibcmeaakljaaW13
namespace Go.Proofs.Ytnmibcmeaakljaa
open Go.RowKit

theorem cat_good {l : List ByteArray} (h1 : anyOdd l = false) (h2 : sumR l ≤ 8) : catR l = (⟨(joinR l).toArray⟩, 0) := by
  unfold catR
  rw [h1, if_neg (by simp), if_pos h2]
theorem join_bytes {l : List ByteArray} {s : ByteArray} (h : joinR l = s.data.toList) : (⟨(joinR l).toArray⟩ : ByteArray) = s := by
  apply bytes_eq
  rw [h]
theorem odd_append {a b : ByteArray} (h1 : oddR a = false) (h2 : oddR b = false) : oddR (a ++ b) = false := by
  unfold oddR at *
  rw [ByteArray.size_append]
  simp at *
  omega
theorem len_append {a b : ByteArray} (h1 : oddR a = false) : lenR (a ++ b) = lenR a + lenR b := by
  unfold oddR at *
  unfold lenR
  rw [ByteArray.size_append]
  simp at *
  omega
theorem cat_bad {l : List ByteArray} (h : ¬ (anyOdd l = false ∧ sumR l ≤ 8)) : ∃ e : Int, catR l = (⟨#[]⟩, e) ∧ e ≠ 0 := by
  unfold catR
  rcases h1 : anyOdd l with _ | _
  · refine ⟨4, ?_, by decide⟩
    rw [if_neg (by simp), if_neg (fun h2 => h ⟨h1, h2⟩)]
  · exact ⟨2, by rw [if_pos rfl], by decide⟩
theorem cats_good {a b c : ByteArray} (h : anyOdd [a, b, c] = false ∧ sumR [a, b, c] ≤ 8) :
    catR [a, b, c] = (a ++ b ++ c, 0) ∧ catR [a, b] = (a ++ b, 0) ∧ catR [b, c] = (b ++ c, 0) ∧ catR [a ++ b, c] = (a ++ b ++ c, 0) ∧ catR [a, b ++ c] = (a ++ b ++ c, 0) ∧ catR [⟨#[]⟩, a, ⟨#[]⟩, b, c, ⟨#[]⟩] = (a ++ b ++ c, 0) := by
  obtain ⟨h1, h2⟩ := h
  simp only [anyOdd, List.any_cons, List.any_nil, Bool.or_false, Bool.or_eq_false_iff] at h1
  obtain ⟨ha, hb, hc⟩ := h1
  simp only [sumR] at h2
  have e0 : oddR ⟨#[]⟩ = false := rfl
  have l0 : lenR ⟨#[]⟩ = 0 := rfl
  have n1 := lenR_nn a
  have n2 := lenR_nn b
  have n3 := lenR_nn c
  have hab := odd_append ha hb
  have hbc := odd_append hb hc
  have lab := len_append (b := b) ha
  have lbc := len_append (b := c) hb
  refine ⟨?_, ?_, ?_, ?_, ?_, ?_⟩
  all_goals
    rw [cat_good (by simp [anyOdd, ha, hb, hc, hab, hbc, e0]) (by simp only [sumR, l0, lab, lbc]; omega)]
    congr 1
    apply join_bytes
    simp [joinR]

set_option maxRecDepth 100000 in
set_option maxHeartbeats 4000000 in
theorem cats_walk (a b c : ByteArray) (w : World) (ha : a.size ≤ maxLen) (hb : b.size ≤ maxLen) (hc : c.size ≤ maxLen) :
    Calls Try.prog 9 #[.string a, .string b, .string c] w fun e w' => e = .returned (.bool true) ∧ Kept w w' := by
  unfold maxLen at ha hb hc
  have AW := Lib.hid (awake_any w)
  by_cases hg : a.size ≤ 4096 ∧ b.size ≤ 4096 ∧ c.size ≤ 4096
  · obtain ⟨g1, g2, g3⟩ := hg
    have d1 : decide ((4096 : Int) < (a.size : Int)) = false := by rw [decide_eq_false_iff_not]; omega
    have d2 : decide ((4096 : Int) < (b.size : Int)) = false := by rw [decide_eq_false_iff_not]; omega
    have d3 : decide ((4096 : Int) < (c.size : Int)) = false := by rw [decide_eq_false_iff_not]; omega
    have z1 : (a ++ b).size ≤ 10000 := by rw [ByteArray.size_append]; omega
    have z2 : (b ++ c).size ≤ 10000 := by rw [ByteArray.size_append]; omega
    have z3 : (a ++ b ++ c).size ≤ 20000 := by rw [ByteArray.size_append]; omega
    have S3 : Hid (∀ s ∈ [a, b, c], s.size ≤ 1000000) := by intro s hs; simp at hs; rcases hs with rfl | rfl | rfl <;> omega
    have S2 : Hid (∀ s ∈ [a, b], s.size ≤ 1000000) := by intro s hs; simp at hs; rcases hs with rfl | rfl <;> omega
    have S1 : Hid (∀ s ∈ [b, c], s.size ≤ 1000000) := by intro s hs; simp at hs; rcases hs with rfl | rfl <;> omega
    have S4 : Hid (∀ s ∈ [a ++ b, c], s.size ≤ 1000000) := by intro s hs; simp at hs; rcases hs with rfl | rfl <;> omega
    have S5 : Hid (∀ s ∈ [a, b ++ c], s.size ≤ 1000000) := by intro s hs; simp at hs; rcases hs with rfl | rfl <;> omega
    have S6 : Hid (∀ s ∈ [⟨#[]⟩, a, ⟨#[]⟩, b, c, ⟨#[]⟩], s.size ≤ 1000000) := by intro s hs; simp at hs; rcases hs with rfl | rfl | rfl | rfl | rfl | rfl <;> first | omega | decide
    by_cases hgood : anyOdd [a, b, c] = false ∧ sumR [a, b, c] ≤ 8
    · have F := Lib.hid (cats_good hgood)
      clear hgood
      go_enter Try.func9, Try.ntmps9
      go_wp2_with fail
      refine AW.out.mono ?_
      rintro e w1 ⟨rfl, hK1⟩
      clear AW
      go_wp2_with fail
      refine (cat_lit w1 [a, b, c] _ _ rfl (by simp) S3.out).mono ?_
      rw [F.out.1]
      rintro e w2 ⟨rfl, K2⟩
      have hK2 := hK1.to K2
      clear K2 hK1
      go_wp2_with fail
      refine (cat_lit w2 [a, b] _ _ rfl (by simp) S2.out).mono ?_
      rw [F.out.2.1]
      rintro e w3 ⟨rfl, K3⟩
      have hK3 := hK2.to K3
      clear K3 hK2
      go_wp2_with fail
      refine (cat_lit w3 [b, c] _ _ rfl (by simp) S1.out).mono ?_
      rw [F.out.2.2.1]
      rintro e w4 ⟨rfl, K4⟩
      have hK4 := hK3.to K4
      clear K4 hK3
      go_wp2_with fail
      refine (cat_lit w4 [a ++ b, c] _ _ rfl (by simp) S4.out).mono ?_
      rw [F.out.2.2.2.1]
      rintro e w5 ⟨rfl, K5⟩
      have hK5 := hK4.to K5
      clear K5 hK4
      go_wp2_with fail
      refine (cat_lit w5 [a, b ++ c] _ _ rfl (by simp) S5.out).mono ?_
      rw [F.out.2.2.2.2.1]
      rintro e w6 ⟨rfl, K6⟩
      have hK6 := hK5.to K6
      clear K6 hK5
      go_wp2_with fail
      refine (cat_lit w6 [⟨#[]⟩, a, ⟨#[]⟩, b, c, ⟨#[]⟩] _ _ rfl (by simp) S6.out).mono ?_
      rw [F.out.2.2.2.2.2]
      rintro e w7 ⟨rfl, K7⟩
      have hK7 := hK6.to K7
      clear K7 hK6
      go_wp2_with fail
      go_ret
      exact ⟨rfl, hK7⟩
    · obtain ⟨er, hE, hne⟩ := cat_bad hgood
      have F := Lib.hid hE
      have db : (er != 0) = true := by simpa using hne
      clear hgood hE hne
      go_enter Try.func9, Try.ntmps9
      go_wp2_with fail
      refine AW.out.mono ?_
      rintro e w1 ⟨rfl, hK1⟩
      clear AW
      go_wp2_with fail
      refine (cat_lit w1 [a, b, c] _ _ rfl (by simp) S3.out).mono ?_
      rw [F.out]
      rintro e w2 ⟨rfl, K2⟩
      have hK2 := hK1.to K2
      clear K2 hK1
      go_wp2_with fail
      refine (cat_lit w2 [a, b] _ _ rfl (by simp) S2.out).mono ?_
      rintro e w3 ⟨rfl, K3⟩
      have hK3 := hK2.to K3
      clear K3 hK2
      go_wp2_with fail
      refine (cat_lit w3 [b, c] _ _ rfl (by simp) S1.out).mono ?_
      rintro e w4 ⟨rfl, K4⟩
      have hK4 := hK3.to K4
      clear K4 hK3
      go_wp2_with fail
      go_ret
      exact ⟨rfl, hK4⟩
  · rcases Nat.lt_or_ge 4096 a.size with g1 | g1
    · have d1 : decide ((4096 : Int) < (a.size : Int)) = true := by rw [decide_eq_true_eq]; omega
      clear hg
      go_enter Try.func9, Try.ntmps9
      go_wp2_with (go_at_call 10; refine AW.out.mono ?_; rintro e w1 ⟨rfl, hK1⟩; clear AW)
      go_ret
      exact ⟨rfl, hK1⟩
    · have d1 : decide ((4096 : Int) < (a.size : Int)) = false := by rw [decide_eq_false_iff_not]; omega
      rcases Nat.lt_or_ge 4096 b.size with g2 | g2
      · have d2 : decide ((4096 : Int) < (b.size : Int)) = true := by rw [decide_eq_true_eq]; omega
        clear hg
        go_enter Try.func9, Try.ntmps9
        go_wp2_with (go_at_call 10; refine AW.out.mono ?_; rintro e w1 ⟨rfl, hK1⟩; clear AW)
        go_ret
        exact ⟨rfl, hK1⟩
      · have d2 : decide ((4096 : Int) < (b.size : Int)) = false := by rw [decide_eq_false_iff_not]; omega
        have d3 : decide ((4096 : Int) < (c.size : Int)) = true := by rw [decide_eq_true_eq]; omega
        clear hg
        go_enter Try.func9, Try.ntmps9
        go_wp2_with (go_at_call 10; refine AW.out.mono ?_; rintro e w1 ⟨rfl, hK1⟩; clear AW)
        go_ret
        exact ⟨rfl, hK1⟩
end Go.Proofs.Ytnmibcmeaakljaa
