/- Find, both. -/
import Derived.Test.YtnmibcmeaakljaaW7
namespace Go.Proofs.Ytnmibcmeaakljaa
open Go.RowKit

/-- Does a word stand in another one at a place? -/
def standsR (s v : ByteArray) (i : Nat) : Bool := decide (((atomsR s).drop i).take (atomsR v).length = atomsR v)
/-- The first place that will do; below 0: none. -/
def firstR (p : Nat → Bool) : Nat → Nat → Int
  | _, 0 => -1
  | i, n + 1 => if p i then (i : Int) else firstR p (i + 1) n
def badR (v : ByteArray) : Bool := oddR v || decide (v.size = 0)
def findR (s v : ByteArray) (i : Int) : Int := if badR v then -1 else firstR (standsR s v) i.toNat ((atomsR s).length - i.toNat)

theorem first_no {p : Nat → Bool} : ∀ (n i : Nat), (∀ k, i ≤ k → p k = false) → firstR p i n = -1
  | 0, _, _ => rfl
  | n + 1, i, h => by
    rw [firstR, h i (Nat.le_refl _)]
    exact first_no n (i + 1) (fun k hk => h k (by omega))
theorem stands_le {s v : ByteArray} {i : Nat} (h : standsR s v i = true) : (atomsR v).length = 0 ∨ i + (atomsR v).length ≤ (atomsR s).length := by
  have := congrArg List.length (of_decide_eq_true h)
  simp at this
  omega
theorem stands_far {s v : ByteArray} {i : Nat} (h0 : 0 < (atomsR v).length) (h : (atomsR s).length < i + (atomsR v).length) : standsR s v i = false := by
  rcases e : standsR s v i with _ | _
  · rfl
  · rcases stands_le e with h1 | h1 <;> omega
theorem stands_bytes {s v : ByteArray} {i : Nat} (ho : v.size % 2 = 0) (h : i + (atomsR v).length ≤ (atomsR s).length) : ((s.extract (2 * i) (2 * i + v.size)).toList == v.toList) = standsR s v i := by
  have hv := atoms_length v
  have hs := atoms_length s
  rw [bytes_beq]
  unfold standsR
  rw [decide_eq_decide]
  have e : 2 * i + v.size = 2 * (i + (atomsR v).length) := by omega
  rw [e]
  have hx := atoms_extract s i (i + (atomsR v).length)
  rw [List.drop_take] at hx
  rw [show i + (atomsR v).length - i = (atomsR v).length by omega] at hx
  constructor
  · intro h1
    rw [← hx, h1]
  · intro h1
    rw [h1] at hx
    have h2 := congrArg ofR hx
    rw [of_atoms ho, of_atoms (by rw [ByteArray.size_extract]; omega)] at h2
    exact h2
set_option maxRecDepth 100000 in
set_option maxHeartbeats 1000000 in
theorem find_any (s v : ByteArray) (from_ : Int) (w : World) (hs : s.size ≤ 1000000) (hv : v.size ≤ 1000000) (hf : i64 from_) :
    Calls Try.prog 21 #[.string s, .string v, .int .i64 from_] w fun e w' => e = .returned (.int .i64 (findR s v from_)) ∧ w = w' := by
  have hm : s.size ≤ maxLen := by unfold maxLen; omega
  have hm2 : v.size ≤ maxLen := by unfold maxLen; omega
  have C1 := Lib.hid (odd_any v w hm2)
  have C2 := Lib.hid (len_any v w hm2)
  have C3 := Lib.hid (len_any s w hm)
  obtain ⟨f0, f1⟩ := hf
  have hls := atoms_length s
  have hlv := atoms_length v
  have hL : lenR s = ((atomsR s).length : Int) := by unfold lenR; omega
  have hL2 : lenR v = ((atomsR v).length : Int) := by unfold lenR; omega
  rw [hL2] at C2
  rw [hL] at C3
  have b1 : (atomsR s).length ≤ 500000 := by omega
  have b2 : (atomsR v).length ≤ 500000 := by omega
  rcases ho : oddR v with _ | _
  · rw [ho] at C1
    have ho2 : v.size % 2 = 0 := by have := of_decide_eq_false ho; omega
    by_cases h0 : (atomsR v).length = 0
    · have HE : Hid (findR s v from_ = -1) := by
        show findR s v from_ = -1
        unfold findR badR
        have hz : v.size = 0 := by omega
        rw [ho, decide_eq_true hz]
        rfl
      have d : (((atomsR v).length : Int) == 0) = true := by rw [beq_iff_eq]; omega
      clear hL hL2 hls hlv ho ho2 h0
      go_enter Try.func21, Try.ntmps21
      go_wp2_with fail
      refine C1.out.mono ?_
      rintro e w' ⟨rfl, rfl⟩
      go_wp2_with fail
      refine C2.out.mono ?_
      rintro e w' ⟨rfl, rfl⟩
      go_wp2_with fail
      go_ret
      exact ⟨by rw [HE.out]; rfl, rfl⟩
    · have HE : Hid (findR s v from_ = firstR (standsR s v) from_.toNat ((atomsR s).length - from_.toNat)) := by
        show findR s v from_ = _
        unfold findR badR
        have hz : ¬ v.size = 0 := by omega
        rw [ho, decide_eq_false hz]
        rfl
      have d : (((atomsR v).length : Int) == 0) = false := by rw [beq_eq_false_iff_ne]; omega
      have HB := Lib.hid (fun i h => stands_bytes (s := s) (v := v) (i := i) ho2 h)
      have HF := Lib.hid (fun i h => stands_far (s := s) (v := v) (i := i) (by omega) h)
      have hM : 1 ≤ (atomsR v).length := by omega
      have hvs : 2 * (atomsR v).length ≤ v.size := by omega
      have hvs2 : v.size ≤ 2 * (atomsR v).length := by omega
      have hss : 2 * (atomsR s).length ≤ s.size := by omega
      clear hL hL2 hls hlv ho ho2 h0
      generalize (atomsR s).length = N at *
      generalize (atomsR v).length = M at *
      obtain ⟨k0, hk0, hkb, hk2⟩ : ∃ k0 : Nat, from_.toNat = k0 ∧ k0 ≤ 9223372036854775807 ∧ (0 ≤ from_ ∧ from_ = k0 ∨ from_ < 0 ∧ k0 = 0) := ⟨_, rfl, by omega, by omega⟩
      rw [hk0] at HE
      clear hk0
      obtain ⟨R, hR⟩ : ∃ R, findR s v from_ = R := ⟨_, rfl⟩
      have HR := Lib.hid hR
      rw [hR] at HE
      clear hR
      go_enter Try.func21, Try.ntmps21
      rcases hk2 with ⟨hp, rfl⟩ | ⟨hp, rfl⟩
      all_goals
        go_wp2_with fail
        refine C1.out.mono ?_
        rintro e w' ⟨rfl, rfl⟩
        go_wp2_with fail
        refine C2.out.mono ?_
        rintro e w' ⟨rfl, rfl⟩
        go_wp2_with fail
        go_loopg [7] (N + 1) (fun gk i wr => ∃ k : Nat, N + 1 - k ≤ gk ∧ k ≤ 9223372036854775807 ∧ i = .int .i64 (k : Int) ∧ firstR (standsR s v) k (N - k) = R ∧ w = wr)
        case atStart => exact ⟨_, by omega, hkb, rfl, HE.out.symm, rfl⟩
        case round =>
          obtain ⟨k, hgk, hk, rfl, hq, rfl⟩ := hrel
          have HQ := Lib.hid hq
          clear hq HE hkb
          by_cases hle : k + M ≤ N
          · have HB2 := Lib.hid (HB.out k hle)
            have e1 : (k : Int) ≤ (N : Int) - (M : Int) := by omega
            have e2 : 2 * (k : Int) + (v.size : Int) ≤ (s.size : Int) := by omega
            obtain ⟨n', hn'⟩ : ∃ n', N - k = n' + 1 := ⟨N - k - 1, by omega⟩
            rcases hst : standsR s v k with _ | _
            · have d2 : ((s.extract (2 * k) (2 * k + v.size)).toList == v.toList) = false := by rw [HB2.out, hst]
              have HN : Hid (firstR (standsR s v) (k + 1) (N - (k + 1)) = R) := by
                have h := HQ.out
                rw [hn', firstR, hst] at h
                rw [show N - (k + 1) = n' by omega]
                exact h
              clear hn' hst HB2
              go_wp2_with fail
              refine C3.out.mono ?_
              rintro e w' ⟨rfl, rfl⟩
              go_wp2_with fail
              refine C2.out.mono ?_
              rintro e w' ⟨rfl, rfl⟩
              go_wp2_with fail
              go_roundg (gk - 1)
              case measure => omega
              case rel => exact ⟨k + 1, by omega, by omega, by go_num, HN.out, rfl⟩
            · have d2 : ((s.extract (2 * k) (2 * k + v.size)).toList == v.toList) = true := by rw [HB2.out, hst]
              have HN : Hid (R = (k : Int)) := by
                have h := HQ.out
                rw [hn', firstR, hst] at h
                exact h.symm
              clear hn' hst HB2
              go_wp2_with fail
              refine C3.out.mono ?_
              rintro e w' ⟨rfl, rfl⟩
              go_wp2_with fail
              refine C2.out.mono ?_
              rintro e w' ⟨rfl, rfl⟩
              go_wp2_with fail
              go_ret
              exact ⟨by rw [HR.out, HN.out]; rfl, rfl⟩
          · have e1 : ¬ (k : Int) ≤ (N : Int) - (M : Int) := by omega
            have HN : Hid (R = -1) := by
              have h := HQ.out
              rw [first_no _ _ (fun j hj => HF.out j (by omega))] at h
              exact h.symm
            clear HB HF HQ hle
            go_wp2_with fail
            refine C3.out.mono ?_
            rintro e w' ⟨rfl, rfl⟩
            go_wp2_with fail
            refine C2.out.mono ?_
            rintro e w' ⟨rfl, rfl⟩
            go_wp2_with fail
            go_ret
            exact ⟨by rw [HR.out, HN.out]; rfl, rfl⟩
  · rw [ho] at C1
    have HE : Hid (findR s v from_ = -1) := by
      show findR s v from_ = -1
      unfold findR badR
      rw [ho]
      rfl
    clear hL hL2 hls hlv ho
    go_enter Try.func21, Try.ntmps21
    go_wp2_with fail
    refine C1.out.mono ?_
    rintro e w' ⟨rfl, rfl⟩
    go_wp2_with fail
    go_ret
    exact ⟨by rw [HE.out]; rfl, rfl⟩

theorem stands_prefix {A B : List Int} {i k : Nat} (hk : k < B.length) (hi : i + k < A.length) (h : (A.drop i).take k = B.take k) (e : A[i + k] = B[k]) : (A.drop i).take (k + 1) = B.take (k + 1) := by
  refine take_eq_succ (by simp; omega) hk h ?_
  simpa using e
theorem stands_yes {s v : ByteArray} {i : Nat} (h : ((atomsR s).drop i).take (atomsR v).length = (atomsR v).take (atomsR v).length) : standsR s v i = true := by
  unfold standsR
  rw [List.take_length] at h
  exact decide_eq_true h
theorem stands_no {s v : ByteArray} {i k : Nat} (hk : k < (atomsR v).length) (h : (atomsR s).length ≤ i + k ∨ ∃ hi : i + k < (atomsR s).length, (atomsR s)[i + k] ≠ (atomsR v)[k]) : standsR s v i = false := by
  unfold standsR
  refine decide_eq_false (fun e => ?_)
  rcases h with h | ⟨hi, h⟩
  · have := congrArg List.length e
    simp at this
    omega
  · refine h ?_
    have e2 := congrArg (fun l => l[k]?) e
    simp only [List.getElem?_take, List.getElem?_drop] at e2
    rw [if_pos hk, List.getElem?_eq_getElem hi, List.getElem?_eq_getElem hk] at e2
    injection e2
set_option maxRecDepth 100000 in
set_option maxHeartbeats 2000000 in
theorem rfind_any (s v : ByteArray) (from_ : Int) (w : World) (hs : s.size ≤ 1000000) (hv : v.size ≤ 1000000) (hf : i64 from_) :
    Calls Try.prog 22 #[.string s, .string v, .int .i64 from_] w fun e w' => e = .returned (.int .i64 (findR s v from_)) ∧ Kept w w' := by
  obtain ⟨f0, f1⟩ := hf
  by_cases h0 : v.size = 0
  · have HE : Hid (findR s v from_ = -1) := by
      show findR s v from_ = -1
      unfold findR badR
      rw [decide_eq_true h0, Bool.or_true]
      rfl
    have d : ((v.size : Int) == 0) = true := by rw [beq_iff_eq]; omega
    clear h0
    go_enter Try.func22, Try.ntmps22
    go_wp2_with fail
    go_ret
    exact ⟨by rw [HE.out]; rfl, Turned.refl _ _⟩
  · have d : ((v.size : Int) == 0) = false := by rw [beq_eq_false_iff_ne]; omega
    by_cases ho : v.size % 2 = 1
    · have HE : Hid (findR s v from_ = -1) := by
        show findR s v from_ = -1
        unfold findR badR oddR
        rw [decide_eq_true ho, Bool.true_or]
        rfl
      have d2 : ((v.size : Int) % 2 == 1) = true := by rw [beq_iff_eq]; omega
      clear h0 ho
      go_enter Try.func22, Try.ntmps22
      go_wp2_with fail
      go_ret
      exact ⟨by rw [HE.out]; rfl, Turned.refl _ _⟩
    · have d2 : ((v.size : Int) % 2 == 1) = false := by rw [beq_eq_false_iff_ne]; omega
      have HE : Hid (findR s v from_ = firstR (standsR s v) from_.toNat ((atomsR s).length - from_.toNat)) := by
        show findR s v from_ = _
        unfold findR badR oddR
        rw [decide_eq_false ho, decide_eq_false h0]
        rfl
      have hls := atoms_length s
      have hlv := atoms_length v
      have b1 : (atomsR s).length ≤ 500000 := by omega
      have b2 : (atomsR v).length ≤ 500000 := by omega
      have HM : 1 ≤ (atomsR v).length := by omega
      obtain ⟨R, hR⟩ : ∃ R, findR s v from_ = R := ⟨_, rfl⟩
      have HR := Lib.hid hR
      rw [hR] at HE
      clear hR h0 ho hls hlv
      have C := Lib.hid (ratoms_any s w hs)
      go_enter Try.func22, Try.ntmps22
      go_wp2_with fail
      refine C.out.mono ?_
      rintro e w1 ⟨v1, rfl, hown1, hK1⟩
      obtain ⟨A1, c1, rfl⟩ := own_slice hown1
      have C2 := Lib.hid (ratoms_any v w1 hv)
      clear C
      go_wp2_with fail
      refine C2.out.mono ?_
      rintro e w2 ⟨v2, rfl, hown2, hK2⟩
      obtain ⟨A2, c2, rfl⟩ := own_slice hown2
      have HR1 := Lib.hid (ReadsT.of_one (V := atV) (fun _ => rfl) (own_turned hown1 hK2 (fun _ _ h => h)))
      have HR2 := Lib.hid (ReadsT.of_one (V := atV) (fun _ => rfl) hown2)
      have hK := hK1.then_ hK2 (fun _ _ h => h)
      obtain ⟨g2, o2, rfl, _, _⟩ := ReadsT.cell_one (fun _ => rfl) HR2.out (j := 0) HM
      clear C2 hown1 hown2 hK1 hK2
      go_wp2_with fail
      go_loopg [9, 10, 11] (atomsR s).length (fun gk i u10 u11 wr => ∃ k n : Nat, k + gk = (atomsR s).length ∧ i = .int .i64 (k : Int) ∧ firstR (standsR s v) (max k from_.toNat) ((atomsR s).length - max k from_.toNat) = R ∧ w2.drewN n = wr)
      case atStart => exact ⟨0, 0, Nat.zero_add _, rfl, by rw [HE.out]; simp, rfl⟩
      case round =>
        obtain ⟨k, n, hgk, rfl, hq, rfl⟩ := hrel
        have HQ := Lib.hid hq
        clear hq HE
        by_cases hle : k < (atomsR s).length
        · have e1 : (k : Int) < ((atomsR s).length : Int) := by omega
          obtain ⟨g1, o1, rfl, _, _⟩ := ReadsT.cell_one (fun _ => rfl) HR1.out (j := k) hle
          by_cases hfr : (k : Int) < from_
          · have e2 : decide ((k : Int) < from_) = true := by simpa using hfr
            have HN : Hid (firstR (standsR s v) (max (k + 1) from_.toNat) ((atomsR s).length - max (k + 1) from_.toNat) = R) := by
              have h := HQ.out
              rw [show max (k + 1) from_.toNat = max k from_.toNat by omega]
              exact h
            clear HQ HR1 HR2
            go_wp2_with fail
            go_roundg (gk - 1)
            case measure => omega
            case rel => exact ⟨k + 1, n, by omega, by go_num, HN.out, rfl⟩
          · have e2 : decide ((k : Int) < from_) = false := by simpa using hfr
            obtain ⟨n', hn'⟩ : ∃ n', (atomsR s).length - k = n' + 1 := ⟨(atomsR s).length - k - 1, by omega⟩
            have HNo : Hid (standsR s v k = false → firstR (standsR s v) (max (k + 1) from_.toNat) ((atomsR s).length - max (k + 1) from_.toNat) = R) := by
              intro hst
              have h := HQ.out
              rw [show max k from_.toNat = k by omega, hn', firstR, hst] at h
              rw [show max (k + 1) from_.toNat = k + 1 by omega, show (atomsR s).length - (k + 1) = n' by omega]
              exact h
            have HYes : Hid (standsR s v k = true → R = (k : Int)) := by
              intro hst
              have h := HQ.out
              rw [show max k from_.toNat = k by omega, hn', firstR, hst] at h
              exact h.symm
            clear HQ hn'
            obtain ⟨gg, rfl⟩ : ∃ gg : Nat, gg = gk := ⟨_, rfl⟩
            go_wp2_with fail
            go_loopg [10, 11] (atomsR v).length (fun g3 u10 u11 wr2 => ∃ j m : Nat, j + g3 = (atomsR v).length ∧ u11 = .int .i64 (j : Int) ∧ u10 = .bool true ∧ ((atomsR s).drop k).take j = (atomsR v).take j ∧ w2.drewN m = wr2)
            case atStart => exact ⟨0, n, Nat.zero_add _, rfl, rfl, by simp, rfl⟩
            case round =>
              obtain ⟨j, m, hgj, rfl, rfl, hp, rfl⟩ := hrel
              have HP := Lib.hid hp
              clear hp
              by_cases hjl : j < (atomsR v).length
              · have e3 : (j : Int) < ((atomsR v).length : Int) := by omega
                have e4 : (0 : Int) ≤ (k : Int) + (j : Int) := by omega
                have k3 : IntKind.i64.wrap ((k : Int) + (j : Int)) = (k : Int) + (j : Int) := by rw [IntKind.wrap_i64]; omega
                by_cases hin : k + j < (atomsR s).length
                · have e5 : decide (((atomsR s).length : Int) ≤ (k : Int) + (j : Int)) = false := by simp; omega
                  have e6 : (k : Int) + (j : Int) < ((atomsR s).length : Int) := by omega
                  obtain ⟨b, o, hb, _, hc1⟩ := ReadsT.cell_one (fun _ => rfl) HR1.out (j := k + j) hin
                  cases hb
                  obtain ⟨b', o', hb', _, hc2⟩ := ReadsT.cell_one (fun _ => rfl) HR2.out (j := j) hjl
                  cases hb'
                  obtain ⟨x, hx⟩ : ∃ x, x = (atomsR s)[k + j] := ⟨_, rfl⟩
                  obtain ⟨y, hy⟩ : ∃ y, y = (atomsR v)[j] := ⟨_, rfl⟩
                  have HX := Lib.hid hx
                  have HY := Lib.hid hy
                  rw [← hx] at hc1
                  rw [← hy] at hc2
                  unfold atV at hc1 hc2
                  have t1 : ((k : Int) + (j : Int)).toNat = k + j := by omega
                  clear hx hy
                  by_cases hxy : x = y
                  · have d3 : (x != y) = false := by simp [hxy]
                    have HN := Lib.hid (stands_prefix hjl hin HP.out (by rw [← HX.out, ← HY.out, hxy]))
                    clear hxy HP HX HY
                    go_wp2_with fail
                    go_quiet (fail)
                    go_wp2_with fail
                    go_roundg (gk - 1)
                    case measure => clear k3 t1; omega
                    case rel => clear k3 t1; exact ⟨j + 1, m + nq, by omega, by go_num, rfl, HN.out, rfl⟩
                  · have d3 : (x != y) = true := by simpa using hxy
                    have HN := Lib.hid (HNo.out (stands_no hjl (.inr ⟨hin, by rw [← HX.out, ← HY.out]; exact hxy⟩)))
                    clear hxy HP HX HY HNo HYes
                    go_wp2_with fail
                    go_quiet (fail)
                    go_wp2_with fail
                    go_roundg (gg - 1)
                    case measure => clear k3 t1; omega
                    case rel => clear k3 t1; exact ⟨k + 1, m + nq, by omega, by go_num, HN.out, rfl⟩
                · have e5 : decide (((atomsR s).length : Int) ≤ (k : Int) + (j : Int)) = true := by simp; omega
                  have HN := Lib.hid (HNo.out (stands_no hjl (.inl (by omega))))
                  clear HP HNo HYes
                  go_wp2_with fail
                  go_quiet (fail)
                  go_wp2_with fail
                  go_roundg (gg - 1)
                  case measure => clear k3; omega
                  case rel => clear k3; exact ⟨k + 1, m + nq, by omega, by go_num, HN.out, rfl⟩
              · have e3 : ¬ (j : Int) < ((atomsR v).length : Int) := by omega
                have hjj : j = (atomsR v).length := by omega
                have HN := Lib.hid (HYes.out (stands_yes (by have := HP.out; rw [hjj] at this; exact this)))
                clear HP HNo HYes hjj
                go_wp2_with fail
                go_ret
                exact ⟨by rw [HR.out, HN.out]; rfl, hK.drewN m⟩
        · have e1 : ¬ (k : Int) < ((atomsR s).length : Int) := by omega
          have HN : Hid (R = -1) := by
            have h := HQ.out
            rw [show (atomsR s).length - max k from_.toNat = 0 by omega] at h
            exact h.symm
          clear HQ hle
          go_wp2_with fail
          go_ret
          exact ⟨by rw [HR.out, HN.out]; rfl, hK.drewN n⟩
end Go.Proofs.Ytnmibcmeaakljaa
