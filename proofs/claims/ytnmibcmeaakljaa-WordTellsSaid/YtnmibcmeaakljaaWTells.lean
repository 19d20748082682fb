/- WordTells: the walk. -/
import Derived.Test.YtnmibcmeaakljaaW13
namespace Go.Proofs.Ytnmibcmeaakljaa
open Go.RowKit

set_option maxRecDepth 100000 in
set_option maxHeartbeats 4000000 in
theorem tells_walk (s v : ByteArray) (i n : Int) (w : World) (hs : s.size ≤ maxLen) (hv : v.size ≤ maxLen) (hi : i64 i) (hn : i64 n) :
    Calls Try.prog 3 #[.string s, .string v, .int .i64 i, .int .i64 n] w fun e w' => e = .returned (.bool true) ∧ Kept w w' := by
  have hs2 := hs
  unfold maxLen at hs hv
  have AW := Lib.hid (awake_any w)
  by_cases hg : s.size ≤ 4096 ∧ v.size ≤ 4096
  · obtain ⟨g1, g2⟩ := hg
    have d1 : decide ((4096 : Int) < (s.size : Int)) = false := by rw [decide_eq_false_iff_not]; omega
    have d2 : decide ((4096 : Int) < (v.size : Int)) = false := by rw [decide_eq_false_iff_not]; omega
    have C1 := fun W => sub_any s i n W hs2 hi hn
    have C2 := fun W => rsub_any s i n W (by omega) hi hn
    generalize subR s i n = x1 at C1 C2
    have C3 := fun W => may_any s W (by omega)
    have C4 := fun W => rmay_any s W (by omega)
    generalize mayR s = x2 at C3 C4
    have C5 := fun W => len_any s W hs2
    have hL : lenR s = ((atomsR s).length : Int) := by have := atoms_length s; unfold lenR; omega
    rw [hL] at C5
    have C6 := fun W => ratoms_any s W (by omega)
    have C7 := fun W => at_any s i W hs2 hi
    have C8 := fun W => rat_any s i W (by omega) hi
    generalize atR s i = x3 at C7 C8
    have C9 := fun W => atoms_any s W (by omega)
    have hA : (atomsR s).length ≤ 10000 := by rw [atoms_length]; omega
    generalize atomsR s = L at C5 C6 C9 hA
    have C10 := fun W => find_any s v i W (by omega) (by omega) hi
    have C11 := fun W => rfind_any s v i W (by omega) (by omega) hi
    generalize findR s v i = x4 at C10 C11
    have C12 := fun W => less_any s v W
    have C13 := fun W => rless_any s v W (by omega)
    generalize lessR s v = x5 at C12 C13
    have D1 := Lib.hid C1
    have D2 := Lib.hid C2
    have D3 := Lib.hid C3
    have D4 := Lib.hid C4
    have D5 := Lib.hid C5
    have D6 := Lib.hid C6
    have D7 := Lib.hid C7
    have D8 := Lib.hid C8
    have D9 := Lib.hid C9
    have D10 := Lib.hid C10
    have D11 := Lib.hid C11
    have D12 := Lib.hid C12
    have D13 := Lib.hid C13
    clear C1 C2 C3 C4 C5 C6 C7 C8 C9 C10 C11 C12 C13 hL
    obtain ⟨x1a, x1b⟩ := x1
    go_enter Try.func3, Try.ntmps3
    go_wp2_with fail
    refine AW.out.mono ?_
    rintro e w1 ⟨rfl, hK1⟩
    clear AW
    go_wp2_with fail
    refine (D1.out _).mono ?_
    rintro e wx ⟨rfl, rfl⟩
    go_wp2_with fail
    refine (D2.out _).mono ?_
    rintro e w2 ⟨rfl, K2⟩
    have hK2 := hK1.to K2
    clear K2 hK1
    go_wp2_with fail
    refine (D3.out _).mono ?_
    rintro e w3 ⟨rfl, n3, rfl⟩
    have hK3 := hK2.drewN n3
    obtain ⟨w3, hw3⟩ : ∃ W, W = w2.drewN n3 := ⟨_, rfl⟩
    rw [← hw3] at hK3 ⊢
    clear hK2 hw3
    go_wp2_with fail
    refine (D4.out _).mono ?_
    rintro e w4 ⟨rfl, K4⟩
    have hK4 := hK3.to K4
    clear K4 hK3
    go_wp2_with fail
    refine (D5.out _).mono ?_
    rintro e wx ⟨rfl, rfl⟩
    go_wp2_with fail
    refine (D6.out _).mono ?_
    rintro e w5 ⟨v5, rfl, O5, K5⟩
    obtain ⟨A5, c5, rfl⟩ := own_slice O5
    have hK5 := hK4.to K5
    clear O5 K5 hK4
    go_wp2_with fail
    refine (D7.out _).mono ?_
    rintro e w6 ⟨rfl, n6, rfl⟩
    have hK6 := hK5.drewN n6
    obtain ⟨w6, hw6⟩ : ∃ W, W = w5.drewN n6 := ⟨_, rfl⟩
    rw [← hw6] at hK6 ⊢
    clear hK5 hw6
    go_wp2_with fail
    refine (D8.out _).mono ?_
    rintro e w7 ⟨rfl, K7⟩
    have hK7 := hK6.to K7
    clear K7 hK6
    go_wp2_with fail
    refine (D9.out _).mono ?_
    rintro e w8 ⟨v8, rfl, O8, K8⟩
    obtain ⟨A8, c8, rfl⟩ := own_slice O8
    have hK8 := hK7.to K8
    clear K8 hK7
    go_wp2_with fail
    refine (D6.out _).mono ?_
    rintro e w9 ⟨v9, rfl, O9, K9⟩
    obtain ⟨A9, c9, rfl⟩ := own_slice O9
    have hK9 := hK8.to K9
    have O8b := own_turned O8 K9 (fun _ _ h => h)
    have SA := same_any A8 A9 c8 c9 _ _ L L w9 (by omega) (by omega) (ReadsT.of_one (V := atV) (fun _ => rfl) O8b) (ReadsT.of_one (V := atV) (fun _ => rfl) O9)
    rw [decide_eq_true rfl] at SA
    have DS := Lib.hid SA
    clear SA O8 O8b O9 K9 hK8
    go_wp2_with fail
    refine (DS.out).mono ?_
    rintro e w10 ⟨rfl, n10, rfl⟩
    have hK10 := hK9.drewN n10
    obtain ⟨w10, hw10⟩ : ∃ W, W = w9.drewN n10 := ⟨_, rfl⟩
    rw [← hw10] at hK10 ⊢
    clear hK9 hw10
    go_wp2_with fail
    refine (D10.out _).mono ?_
    rintro e wx ⟨rfl, rfl⟩
    go_wp2_with fail
    refine (D11.out _).mono ?_
    rintro e w11 ⟨rfl, K11⟩
    have hK11 := hK10.to K11
    clear K11 hK10
    go_wp2_with fail
    refine (D12.out _).mono ?_
    rintro e wx ⟨rfl, rfl⟩
    go_wp2_with fail
    refine (D13.out _).mono ?_
    rintro e w12 ⟨rfl, n12, rfl⟩
    have hK12 := hK11.drewN n12
    obtain ⟨w12, hw12⟩ : ∃ W, W = w11.drewN n12 := ⟨_, rfl⟩
    rw [← hw12] at hK12 ⊢
    clear hK11 hw12
    go_wp2_with fail
    go_ret
    exact ⟨rfl, hK12⟩
  · rcases Nat.lt_or_ge 4096 s.size with g1 | g1
    · have d1 : decide ((4096 : Int) < (s.size : Int)) = true := by rw [decide_eq_true_eq]; omega
      clear hg
      go_enter Try.func3, Try.ntmps3
      go_wp2_with (go_at_call 10; refine AW.out.mono ?_; rintro e w1 ⟨rfl, hK1⟩; clear AW)
      go_ret
      exact ⟨rfl, hK1⟩
    · have d1 : decide ((4096 : Int) < (s.size : Int)) = false := by rw [decide_eq_false_iff_not]; omega
      have d2 : decide ((4096 : Int) < (v.size : Int)) = true := by rw [decide_eq_true_eq]; omega
      clear hg
      go_enter Try.func3, Try.ntmps3
      go_wp2_with (go_at_call 10; refine AW.out.mono ?_; rintro e w1 ⟨rfl, hK1⟩; clear AW)
      go_ret
      exact ⟨rfl, hK1⟩
end Go.Proofs.Ytnmibcmeaakljaa
