/- WordSwaps: the walk. -/
import Derived.Test.YtnmibcmeaakljaaW13
namespace Go.Proofs.Ytnmibcmeaakljaa
open Go.RowKit

theorem cut0 (p v q : ByteArray) : (p ++ v ++ q).extract 0 p.size = p := by
  apply bytes_eq
  rw [extract_list, append_list, append_list, ← size_list, List.append_assoc, List.take_left]
  rfl
theorem cut1 (p v q : ByteArray) : (p ++ v ++ q).extract p.size (p.size + v.size) = v := by
  apply bytes_eq
  rw [extract_list, append_list, append_list, ← size_list p, ← size_list v, ← List.length_append, List.take_left, List.drop_left]
theorem cut2 (p v q : ByteArray) : (p ++ v ++ q).extract (p.size + v.size) (p ++ v ++ q).size = q := by
  apply bytes_eq
  rw [extract_list, ← size_list (p ++ v ++ q), List.take_length, append_list, append_list, ← size_list p, ← size_list v, ← List.length_append, List.drop_left]
theorem even_of {s : ByteArray} (h : s.size % 2 = 0) : oddR s = false := by unfold oddR; rw [decide_eq_false_iff_not]; omega
theorem of_even {s : ByteArray} (h : oddR s = false) : s.size % 2 = 0 := by unfold oddR at h; rw [decide_eq_false_iff_not] at h; omega
section
variable {p v q o : ByteArray} {k : Nat}
theorem parts_len (hp : p.size = 2 * k) (hv : v.size % 2 = 0) : lenR (p ++ v ++ q) = (k : Int) + lenR v + lenR q := by
  unfold lenR
  rw [ByteArray.size_append, ByteArray.size_append]
  omega
theorem parts_within (hp : p.size = 2 * k) (hv : v.size % 2 = 0) : withinR (p ++ v ++ q) k (lenR v) = true := by
  unfold withinR
  rw [parts_len hp hv]
  have := lenR_nn v
  have := lenR_nn q
  exact decide_eq_true ⟨by omega, by omega, by omega, by omega⟩
theorem parts_sub (hp : p.size = 2 * k) (hv : v.size % 2 = 0) (hq : q.size % 2 = 0) : subR (p ++ v ++ q) k (lenR v) = (v, 0) := by
  unfold subR
  rw [even_of (by rw [ByteArray.size_append, ByteArray.size_append]; omega), parts_within hp hv]
  simp only [Bool.false_eq_true, if_false, if_true]
  have e1 : (2 * (k : Int)).toNat = p.size := by omega
  have e2 : (2 * ((k : Int) + lenR v)).toNat = p.size + v.size := by unfold lenR; omega
  rw [e1, e2, cut1]
theorem parts_swap (hp : p.size = 2 * k) (hv : v.size % 2 = 0) (hq : q.size % 2 = 0) (ho : o.size % 2 = 0) :
    swapR (p ++ v ++ q) k (lenR v) o = if 8 < (k : Int) + lenR o + lenR q then (⟨#[]⟩, 4) else (p ++ o ++ q, 0) := by
  unfold swapR
  rw [even_of (by rw [ByteArray.size_append, ByteArray.size_append]; omega), even_of ho, parts_within hp hv, parts_len hp hv]
  simp only [Bool.or_self, Bool.false_eq_true, if_false, if_true]
  have e1 : (2 * (k : Int)).toNat = p.size := by omega
  have e2 : (2 * ((k : Int) + lenR v)).toNat = p.size + v.size := by unfold lenR; omega
  have e3 : (k : Int) + lenR v + lenR q - lenR v + lenR o = (k : Int) + lenR o + lenR q := by omega
  rw [e1, e2, e3, cut0, cut2]
end
/-- A word that is swapped falls into three parts. -/
theorem swap_parts {s : ByteArray} {i n : Int} (ho : oddR s = false) (hw : withinR s i n = true) :
    ∃ (p o q : ByteArray) (k : Nat), s = p ++ o ++ q ∧ i = k ∧ n = lenR o ∧ p.size = 2 * k ∧ o.size % 2 = 0 ∧ q.size % 2 = 0 := by
  have hb := of_decide_eq_true hw
  have he := of_even ho
  have hL : lenR s = (s.size : Int) / 2 := rfl
  obtain ⟨b0, b1, b2, b3⟩ := hb
  obtain ⟨k, rfl⟩ : ∃ k : Nat, i = k := ⟨i.toNat, by omega⟩
  obtain ⟨m, rfl⟩ : ∃ m : Nat, n = m := ⟨n.toNat, by omega⟩
  refine ⟨s.extract 0 (2 * k), s.extract (2 * k) (2 * (k + m)), s.extract (2 * (k + m)) s.size, k, ?_, rfl, ?_, ?_, ?_, ?_⟩
  · apply bytes_eq
    rw [append_list, append_list, extract_list, extract_list, extract_list, ← size_list s, List.take_length, List.drop_zero]
    have : (s.data.toList.take (2 * k)) ++ (s.data.toList.take (2 * (k + m))).drop (2 * k) = s.data.toList.take (2 * (k + m)) := by
      have h := List.take_append_drop (2 * k) (s.data.toList.take (2 * (k + m)))
      rwa [List.take_take, Nat.min_eq_left (by omega)] at h
    rw [this, List.take_append_drop]
  · unfold lenR
    rw [ByteArray.size_extract]
    omega
  all_goals
    rw [ByteArray.size_extract]
    omega
theorem swap_bad {s v : ByteArray} {i n : Int} (h : ¬ (oddR s = false ∧ oddR v = false ∧ withinR s i n = true ∧ lenR s - n + lenR v ≤ 8)) : ∃ f : Int, swapR s i n v = (⟨#[]⟩, f) ∧ f ≠ 0 := by
  unfold swapR
  rcases h1 : oddR s with _ | _
  · rcases h2 : oddR v with _ | _
    · rcases h3 : withinR s i n with _ | _
      · exact ⟨5, rfl, by decide⟩
      · refine ⟨4, ?_, by decide⟩
        simp only [Bool.or_self, Bool.false_eq_true, if_false, if_true]
        rw [if_pos]
        by_cases h4 : lenR s - n + lenR v ≤ 8
        · exact absurd ⟨h1, h2, h3, h4⟩ h
        · omega
    · exact ⟨2, rfl, by decide⟩
  · exact ⟨2, by simp, by decide⟩
theorem swap_sub_bad {s v : ByteArray} {i n : Int} (h : (subR s i n).2 ≠ 0) : ¬ (oddR s = false ∧ oddR v = false ∧ withinR s i n = true ∧ lenR s - n + lenR v ≤ 8) := by
  rintro ⟨h1, _, h3, _⟩
  unfold subR at h
  rw [h1, h3] at h
  simp at h

set_option maxRecDepth 100000 in
set_option maxHeartbeats 4000000 in
theorem swaps_walk (s v : ByteArray) (i n : Int) (w : World) (hs : s.size ≤ maxLen) (hv : v.size ≤ maxLen) (hi : i64 i) (hn : i64 n) :
    Calls Try.prog 7 #[.string s, .string v, .int .i64 i, .int .i64 n] w fun e w' => e = .returned (.bool true) ∧ Kept w w' := by
  have hs2 := hs
  have hv2 := hv
  unfold maxLen at hs hv
  have AW := Lib.hid (awake_any w)
  by_cases hg : s.size ≤ 4096 ∧ v.size ≤ 4096
  · obtain ⟨g1, g2⟩ := hg
    have d1 : decide ((4096 : Int) < (s.size : Int)) = false := by rw [decide_eq_false_iff_not]; omega
    have d2 : decide ((4096 : Int) < (v.size : Int)) = false := by rw [decide_eq_false_iff_not]; omega
    by_cases hgood : oddR s = false ∧ oddR v = false ∧ withinR s i n = true ∧ lenR s - n + lenR v ≤ 8
    · obtain ⟨h1, h2, h3, h4⟩ := hgood
      obtain ⟨p, o, q, k, rfl, rfl, rfl, hp, ho, hq⟩ := swap_parts h1 h3
      have hv3 := of_even h2
      have hz : (p ++ o ++ q).size = p.size + o.size + q.size := by rw [ByteArray.size_append, ByteArray.size_append]
      have hz2 : (p ++ v ++ q).size = p.size + v.size + q.size := by rw [ByteArray.size_append, ByteArray.size_append]
      have e5 := parts_len (q := q) hp ho
      have e6 := parts_len (q := q) hp hv3
      rw [e5] at h4
      have n1 := lenR_nn o
      have n2 := lenR_nn v
      have n3 := lenR_nn q
      have m1 : lenR o ≤ 100000 := by unfold lenR; omega
      have m2 : lenR v ≤ 100000 := by unfold lenR; omega
      have m3 : lenR q ≤ 100000 := by unfold lenR; omega
      have m4 : (k : Int) ≤ 100000 := by omega
      have hir : i64 (lenR v) := ⟨by omega, by omega⟩
      have C1 := fun W => sub_any (p ++ o ++ q) k (lenR o) W hs2 hi hn
      rw [parts_sub hp ho hq] at C1
      have C2 := fun W => swap_any (p ++ o ++ q) k (lenR o) v W (by omega) (by omega) hi hn
      rw [parts_swap hp ho hq hv3, if_neg (by omega)] at C2
      have C3 := fun W => sub_any (p ++ v ++ q) k (lenR v) W (by unfold maxLen; omega) hi hir
      rw [parts_sub hp hv3 hq] at C3
      have C4 := fun W => swap_any (p ++ v ++ q) k (lenR v) o W (by omega) (by omega) hi hir
      rw [parts_swap hp hv3 hq ho] at C4
      have L1 := fun W => len_any (p ++ v ++ q) W (by unfold maxLen; omega)
      rw [e6] at L1
      have L2 := fun W => len_any (p ++ o ++ q) W hs2
      rw [e5] at L2
      have L3 := fun W => len_any v W hv2
      clear hz hz2 e5 e6 hi hn hir hp ho hq hs hs2 h1 h2 h3 hv3 g1
      generalize p ++ o ++ q = S0 at *
      generalize p ++ v ++ q = S1 at *
      generalize lenR o = r at *
      generalize lenR v = m at *
      generalize lenR q = t at *
      have dd : ((k : Int) + m + t != (k : Int) + r + t - r + m) = false := by rw [bne_eq_false_iff_eq]; omega
      have D1 := Lib.hid C1
      have D2 := Lib.hid C2
      have D3 := Lib.hid C3
      have E1 := Lib.hid L1
      have E2 := Lib.hid L2
      have E3 := Lib.hid L3
      clear C1 C2 C3 L1 L2 L3
      by_cases h8 : 8 < (k : Int) + r + t
      · rw [if_pos h8] at C4
        have d8 : decide ((8 : Int) < (k : Int) + r + t) = true := by simpa using h8
        have D4 := Lib.hid C4
        clear C4
        go_enter Try.func7, Try.ntmps7
        go_wp2_with (first | (go_at_call 10; refine AW.out.mono ?_; rintro e w1 ⟨rfl, hK1⟩; clear AW) | (go_at_call 11; (with_reducible refine (D1.out _).mono ?_); rintro e wx ⟨rfl, rfl⟩) | (go_at_call 29; (with_reducible refine (D2.out _).mono ?_); rintro e wx ⟨rfl, na, rfl⟩) | (go_at_call 11; (with_reducible refine (D3.out _).mono ?_); rintro e wx ⟨rfl, rfl⟩) | (go_at_call 29; (with_reducible refine (D4.out _).mono ?_); rintro e wx ⟨rfl, nb, rfl⟩) | (go_at_call 15; (with_reducible refine (E1.out _).mono ?_); rintro e wx ⟨rfl, rfl⟩) | (go_at_call 15; (with_reducible refine (E2.out _).mono ?_); rintro e wx ⟨rfl, rfl⟩) | (go_at_call 15; (with_reducible refine (E3.out _).mono ?_); rintro e wx ⟨rfl, rfl⟩))
        go_ret
        exact ⟨rfl, hK1.drewN _⟩
      · rw [if_neg h8] at C4
        have d8 : decide ((8 : Int) < (k : Int) + r + t) = false := by simpa using h8
        have D4 := Lib.hid C4
        clear C4
        go_enter Try.func7, Try.ntmps7
        go_wp2_with (first | (go_at_call 10; refine AW.out.mono ?_; rintro e w1 ⟨rfl, hK1⟩; clear AW) | (go_at_call 11; (with_reducible refine (D1.out _).mono ?_); rintro e wx ⟨rfl, rfl⟩) | (go_at_call 29; (with_reducible refine (D2.out _).mono ?_); rintro e wx ⟨rfl, na, rfl⟩) | (go_at_call 11; (with_reducible refine (D3.out _).mono ?_); rintro e wx ⟨rfl, rfl⟩) | (go_at_call 29; (with_reducible refine (D4.out _).mono ?_); rintro e wx ⟨rfl, nb, rfl⟩) | (go_at_call 15; (with_reducible refine (E1.out _).mono ?_); rintro e wx ⟨rfl, rfl⟩) | (go_at_call 15; (with_reducible refine (E2.out _).mono ?_); rintro e wx ⟨rfl, rfl⟩) | (go_at_call 15; (with_reducible refine (E3.out _).mono ?_); rintro e wx ⟨rfl, rfl⟩))
        go_ret
        exact ⟨rfl, hK1.drewN _⟩
    · obtain ⟨f, hf, hne⟩ := swap_bad hgood
      have df : (f != 0) = true := by simpa using hne
      have C2 := fun W => swap_any s i n v W (by omega) (by omega) hi hn
      rw [hf] at C2
      have D2 := Lib.hid C2
      have C1 := fun W => sub_any s i n W hs2 hi hn
      generalize subR s i n = x at C1
      obtain ⟨x1, x2⟩ := x
      have D1 := Lib.hid C1
      clear C1 C2 hf hne hgood hi hn
      by_cases he : x2 = 0
      · have de : (x2 != 0) = false := by simpa using he
        clear he
        go_enter Try.func7, Try.ntmps7
        go_wp2_with (first | (go_at_call 10; refine AW.out.mono ?_; rintro e w1 ⟨rfl, hK1⟩; clear AW) | (go_at_call 11; (with_reducible refine (D1.out _).mono ?_); rintro e wx ⟨rfl, rfl⟩) | (go_at_call 29; (with_reducible refine (D2.out _).mono ?_); rintro e wx ⟨rfl, na, rfl⟩))
        go_ret
        exact ⟨rfl, hK1.drewN _⟩
      · have de : (x2 != 0) = true := by simpa using he
        clear he
        go_enter Try.func7, Try.ntmps7
        go_wp2_with (first | (go_at_call 10; refine AW.out.mono ?_; rintro e w1 ⟨rfl, hK1⟩; clear AW) | (go_at_call 11; (with_reducible refine (D1.out _).mono ?_); rintro e wx ⟨rfl, rfl⟩) | (go_at_call 29; (with_reducible refine (D2.out _).mono ?_); rintro e wx ⟨rfl, na, rfl⟩))
        go_ret
        exact ⟨rfl, hK1.drewN _⟩
  · rcases Nat.lt_or_ge 4096 s.size with g1 | g1
    · have d1 : decide ((4096 : Int) < (s.size : Int)) = true := by rw [decide_eq_true_eq]; omega
      clear hg
      go_enter Try.func7, Try.ntmps7
      go_wp2_with (go_at_call 10; refine AW.out.mono ?_; rintro e w1 ⟨rfl, hK1⟩; clear AW)
      go_ret
      exact ⟨rfl, hK1⟩
    · have d1 : decide ((4096 : Int) < (s.size : Int)) = false := by rw [decide_eq_false_iff_not]; omega
      have d2 : decide ((4096 : Int) < (v.size : Int)) = true := by rw [decide_eq_true_eq]; omega
      clear hg
      go_enter Try.func7, Try.ntmps7
      go_wp2_with (go_at_call 10; refine AW.out.mono ?_; rintro e w1 ⟨rfl, hK1⟩; clear AW)
      go_ret
      exact ⟨rfl, hK1⟩
end Go.Proofs.Ytnmibcmeaakljaa
