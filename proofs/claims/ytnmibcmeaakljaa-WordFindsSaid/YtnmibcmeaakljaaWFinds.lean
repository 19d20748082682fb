/- WordFinds: the walk. -/
import Derived.Test.YtnmibcmeaakljaaW13
import Derived.Deep.QuietTactic
namespace Go.Proofs.Ytnmibcmeaakljaa
open Go.RowKit

theorem first_spec {p : Nat → Bool} : ∀ (n i : Nat), (firstR p i n = -1 ∧ ∀ j, i ≤ j → j < i + n → p j = false) ∨ ∃ j : Nat, firstR p i n = j ∧ i ≤ j ∧ j < i + n ∧ p j = true ∧ ∀ q, i ≤ q → q < j → p q = false
  | 0, i => .inl ⟨rfl, fun j h1 h2 => by omega⟩
  | n + 1, i => by
    rcases hp : p i with _ | _
    · rcases first_spec (p := p) n (i + 1) with ⟨h1, h2⟩ | ⟨j, h1, h2, h3, h4, h5⟩
      · refine .inl ⟨by rw [firstR, hp]; exact h1, fun j h3 h4 => ?_⟩
        rcases Nat.eq_or_lt_of_le h3 with rfl | h
        · exact hp
        · exact h2 j h (by omega)
      · refine .inr ⟨j, by rw [firstR, hp]; exact h1, by omega, by omega, h4, fun q h6 h7 => ?_⟩
        rcases Nat.eq_or_lt_of_le h6 with rfl | h
        · exact hp
        · exact h5 q h h7
    · exact .inr ⟨i, by rw [firstR, hp]; rfl, Nat.le_refl _, by omega, hp, fun q h1 h2 => by omega⟩
/-- The word without a last odd byte. -/
def evenR (s : ByteArray) : ByteArray := s.extract 0 (s.size - s.size % 2)
theorem even_size (s : ByteArray) : (evenR s).size = 2 * (s.size / 2) := by
  unfold evenR
  rw [ByteArray.size_extract]
  omega
theorem even_atoms (s : ByteArray) : atomsR (evenR s) = atomsR s := by
  unfold evenR
  have h := atoms_extract s 0 (s.size / 2)
  rw [show 2 * (s.size / 2) = s.size - s.size % 2 by omega, Nat.mul_zero] at h
  rw [h, List.drop_zero, List.take_of_length_le (by rw [atoms_length]; omega)]
/-- So many atoms from a place on. -/
def partOf (s : ByteArray) (j r : Nat) : ByteArray := ofR (((atomsR s).take (j + r)).drop j)
theorem sub_part {s : ByteArray} {j r : Nat} (h : j + r ≤ (atomsR s).length) : subR (evenR s) j r = (partOf s j r, 0) := by
  unfold subR
  have hl := atoms_length s
  have hz := even_size s
  have h1 : oddR (evenR s) = false := by unfold oddR; rw [decide_eq_false_iff_not]; omega
  have h2 : withinR (evenR s) j r = true := by
    unfold withinR lenR
    rw [decide_eq_true_eq, hz]
    omega
  rw [h1, h2]
  simp only [Bool.false_eq_true, if_false, if_true]
  unfold partOf
  have h3 := sub_eq (s := evenR s) (k := j) (m := r) (by omega) (by rw [even_atoms]; exact h)
  rw [even_atoms] at h3
  rw [h3, show (2 * (j : Int)).toNat = 2 * j by omega, show (2 * ((j : Int) + (r : Int))).toNat = 2 * (j + r) by omega]
theorem part_beq {s v : ByteArray} {j : Nat} (hv : v.size % 2 = 0) : ((partOf s j (atomsR v).length).toList == v.toList) = standsR s v j := by
  rw [bytes_beq]
  unfold standsR partOf
  rw [decide_eq_decide]
  have hd : ((atomsR s).take (j + (atomsR v).length)).drop j = ((atomsR s).drop j).take (atomsR v).length := by
    rw [List.drop_take]
    congr 1
    omega
  rw [hd]
  constructor
  · intro h
    have := congrArg atomsR h
    rwa [atoms_of (fun x hx => atoms_u16 s x (List.mem_of_mem_drop (List.mem_of_mem_take hx)))] at this
  · intro h
    rw [h, of_atoms hv]
theorem stands_mid {a v b : ByteArray} (ha : a.size % 2 = 0) (hv : v.size % 2 = 0) : standsR (a ++ v ++ b) v (a.size / 2) = true := by
  unfold standsR
  rw [decide_eq_true_eq, atoms_append _ (by rw [ByteArray.size_append]; omega), atoms_append _ ha, ← atoms_length a, List.append_assoc, List.drop_left, List.take_left]
theorem even_of' {s : ByteArray} (h : s.size % 2 = 0) : oddR s = false := by unfold oddR; rw [decide_eq_false_iff_not]; omega
/-- What is found, in plain terms. -/
theorem find_spec {a v b : ByteArray} (from_ : Int) (ha : a.size % 2 = 0) (hv : v.size % 2 = 0) (h0 : 0 < v.size) :
    (findR (a ++ v ++ b) v from_ = -1 ∧ lenR a < from_) ∨
    ∃ j : Nat, findR (a ++ v ++ b) v from_ = j ∧ from_ ≤ j ∧ from_.toNat ≤ j ∧ j + (atomsR v).length ≤ (atomsR (a ++ v ++ b)).length ∧ standsR (a ++ v ++ b) v j = true ∧ (∀ q, from_.toNat ≤ q → q < j → standsR (a ++ v ++ b) v q = false) ∧ (from_ ≤ lenR a → (j : Int) ≤ lenR a) := by
  have hm := stands_mid (b := b) ha hv
  have hlv := atoms_length v
  have hr : 0 < (atomsR v).length := by omega
  have hk : lenR a = ((a.size / 2 : Nat) : Int) := by unfold lenR; omega
  have hN := stands_le hm
  have hf : findR (a ++ v ++ b) v from_ = firstR (standsR (a ++ v ++ b) v) from_.toNat ((atomsR (a ++ v ++ b)).length - from_.toNat) := by
    unfold findR badR
    rw [even_of' hv, decide_eq_false (by omega)]
    rfl
  generalize a ++ v ++ b = s at *
  rw [hf, hk]
  generalize a.size / 2 = c at *
  rcases first_spec (p := standsR s v) ((atomsR s).length - from_.toNat) from_.toNat with ⟨h1, h2⟩ | ⟨j, h1, h2, h3, h4, h5⟩
  · refine .inl ⟨h1, ?_⟩
    by_cases hc : (c : Int) < from_
    · exact hc
    · have := h2 c (by omega) (by omega)
      rw [hm] at this
      cases this
  · refine .inr ⟨j, h1, by omega, h2, ?_, h4, h5, fun h => ?_⟩
    · rcases stands_le h4 with h | h <;> omega
    · by_cases hc : (j : Int) ≤ c
      · exact hc
      · have := h5 c (by omega) (by omega)
        rw [hm] at this
        cases this

theorem quiet_same {P : Program} {f : FuncId} {args : Array Value} {w : World} {n : Nat} {v : Value}
    (h : Calls P f args (w.drewN n) fun e w' => e = .returned v ∧ w.drewN n = w') : Calls P f args (w.drewN n) fun e w'' => e = .returned v ∧ ∃ m, w'' = w.drewN m :=
  h.mono fun _ _ ⟨he, hm⟩ => ⟨he, n, hm.symm⟩

set_option maxRecDepth 100000 in
set_option maxHeartbeats 4000000 in
theorem finds_walk (a v b : ByteArray) (x : Int) (w : World) (ha : a.size ≤ maxLen) (hv : v.size ≤ maxLen) (hb : b.size ≤ maxLen) (hx : i64 x) :
    Calls Try.prog 8 #[.string a, .string v, .string b, .int .i64 x] w fun e w' => e = .returned (.bool true) ∧ Kept w w' := by
  have ha2 := ha
  have hv2 := hv
  obtain ⟨x0, x1⟩ := hx
  unfold maxLen at ha hv hb
  have AW := Lib.hid (awake_any w)
  by_cases hg : a.size ≤ 4096 ∧ v.size ≤ 4096 ∧ b.size ≤ 4096
  · obtain ⟨g1, g2, g3⟩ := hg
    have d1 : decide ((4096 : Int) < (a.size : Int)) = false := by rw [decide_eq_false_iff_not]; omega
    have d2 : decide ((4096 : Int) < (v.size : Int)) = false := by rw [decide_eq_false_iff_not]; omega
    have d3 : decide ((4096 : Int) < (b.size : Int)) = false := by rw [decide_eq_false_iff_not]; omega
    by_cases o1 : a.size % 2 = 1
    · have d4 : ((a.size : Int) % 2 == 1) = true := by rw [beq_iff_eq]; omega
      go_enter Try.func8, Try.ntmps8
      go_wp2_with (go_at_call 10; refine AW.out.mono ?_; rintro e w1 ⟨rfl, hK1⟩; clear AW)
      go_ret
      exact ⟨rfl, hK1⟩
    · have d4 : ((a.size : Int) % 2 == 1) = false := by rw [beq_eq_false_iff_ne]; omega
      by_cases o2 : v.size % 2 = 1
      · have d5 : ((v.size : Int) % 2 == 1) = true := by rw [beq_iff_eq]; omega
        go_enter Try.func8, Try.ntmps8
        go_wp2_with (go_at_call 10; refine AW.out.mono ?_; rintro e w1 ⟨rfl, hK1⟩; clear AW)
        go_ret
        exact ⟨rfl, hK1⟩
      · have d5 : ((v.size : Int) % 2 == 1) = false := by rw [beq_eq_false_iff_ne]; omega
        have z1 : (a ++ v).size ≤ 10000 := by rw [ByteArray.size_append]; omega
        have z2 : (a ++ v ++ b).size ≤ 20000 := by rw [ByteArray.size_append]; omega
        have FI := fun W => find_any (a ++ v ++ b) v x W (by omega) (by omega) ⟨x0, x1⟩
        have LA := Lib.hid (fun W => len_any a W ha2)
        by_cases h0 : v.size = 0
        · have hE : findR (a ++ v ++ b) v x = -1 := by unfold findR badR; rw [decide_eq_true h0, Bool.or_true]; rfl
          rw [hE] at FI
          have hve : v.toList = [] := by
            rw [ByteArray.toList_eq]
            exact List.length_eq_zero_iff.1 h0
          have dv : v.toList.isEmpty = true := by rw [hve]; rfl
          have D := Lib.hid FI
          clear FI hE hve o1 o2
          go_enter Try.func8, Try.ntmps8
          go_wp2_with (first | (go_at_call 10; refine AW.out.mono ?_; rintro e w1 ⟨rfl, hK1⟩; clear AW) | (go_at_call 21; (with_reducible refine (D.out _).mono ?_); rintro e wx ⟨rfl, rfl⟩))
          go_ret
          exact ⟨rfl, hK1⟩
        · have dv : v.toList.isEmpty = false := by
            rw [ByteArray.toList_eq, List.isEmpty_eq_false_iff]
            intro h
            exact h0 (List.length_eq_zero_iff.2 h)
          have dv2 : (v.toList == []) = false := by rw [List.isEmpty_eq_false_iff] at dv; simpa using dv
          have LV := fun W => len_any v W hv2
          have hlv : lenR v = ((atomsR v).length : Int) := by have := atoms_length v; unfold lenR; omega
          rw [hlv] at LV
          have hrb : (atomsR v).length ≤ 10000 := by have := atoms_length v; omega
          have hAL := lenR_nn a
          have hAU : lenR a ≤ 10000 := by unfold lenR; omega
          have hB := Lib.hid (fun j => part_beq (s := a ++ v ++ b) (v := v) (j := j) (by omega))
          have hS := Lib.hid (fun j h => sub_part (s := a ++ v ++ b) (j := j) (r := (atomsR v).length) h)
          have hes := even_size (a ++ v ++ b)
          have hNb : (atomsR (a ++ v ++ b)).length ≤ 20000 := by have := atoms_length (a ++ v ++ b); omega
          have x2 : ∀ W, (Instr.slice 22 (.string (a ++ v ++ b)) none (some (.int .i64 (((a ++ v ++ b).size : Int) - ((a ++ v ++ b).size : Int) % 2))) none).run Try.prog W = .ok (.string (evenR (a ++ v ++ b))) W := fun W => by
            rw [run_slice_string_h W _ _ Try.underlying22 _ _ (by omega) (by omega)]
            unfold evenR
            congr 4
            omega
          have DL := Lib.hid LV
          rcases find_spec (b := b) x (show a.size % 2 = 0 by omega) (show v.size % 2 = 0 by omega) (by omega) with ⟨hE, hlt⟩ | ⟨j, hE, h1, h2, h3, h4, h5, h6⟩
          · rw [hE] at FI
            have D := Lib.hid FI
            have dl : decide (lenR a < x) = true := by simpa using hlt
            clear FI hE LV hlv o1 o2 hes x2 hB hS
            go_enter Try.func8, Try.ntmps8
            go_wp2_with (first | (go_at_call 10; refine AW.out.mono ?_; rintro e w1 ⟨rfl, hK1⟩; clear AW) | (go_at_call 21; (with_reducible refine (D.out _).mono ?_); rintro e wx ⟨rfl, rfl⟩) | (go_at_call 15; (with_reducible refine (LA.out _).mono ?_); rintro e wx ⟨rfl, rfl⟩))
            go_ret
            exact ⟨rfl, hK1⟩
          · rw [hE] at FI
            have D := Lib.hid FI
            have hst := hB.out j
            rw [h4] at hst
            have hsu := hS.out j h3
            have SU := fun W => sub_any (evenR (a ++ v ++ b)) j (atomsR v).length W (by unfold maxLen; omega) ⟨by omega, by omega⟩ ⟨by omega, by omega⟩
            rw [hsu] at SU
            have DS := Lib.hid SU
            have H5 := Lib.hid h5
            have H6 := Lib.hid h6
            have dx : decide ((j : Int) < x) = false := by rw [decide_eq_false_iff_not]; omega
            have sz := Lib.hid (show (evenR (a ++ v ++ b)).size ≤ 30000 by omega)
            clear FI hE LV hlv o1 o2 hes h5 h6 h4 hsu SU
            generalize hP : partOf (a ++ v ++ b) j (atomsR v).length = pj at hst DS
            clear hP
            have kz : IntKind.i64.wrap (((a ++ v ++ b).size : Int) - ((a ++ v ++ b).size : Int) % 2) = ((a ++ v ++ b).size : Int) - ((a ++ v ++ b).size : Int) % 2 := by rw [IntKind.wrap_i64]; omega
            have kt : IntKind.i64.wrap (((a ++ v ++ b).size : Int).tmod 2) = ((a ++ v ++ b).size : Int) % 2 := by rw [Int.tmod_eq_emod_of_nonneg (by omega), IntKind.wrap_i64]; omega
            obtain ⟨k0, hk0⟩ : ∃ k0 : Nat, x.toNat = k0 := ⟨_, rfl⟩
            rw [hk0] at h2 H5
            have HK := Lib.hid hk0
            clear hk0
            go_enter Try.func8, Try.ntmps8
            go_wp2_with (first | (go_at_call 10; refine AW.out.mono ?_; rintro e w1 ⟨rfl, hK1⟩; clear AW) | (go_at_call 21; (with_reducible refine (D.out _).mono ?_); rintro e wx ⟨rfl, rfl⟩) | (go_at_call 15; (with_reducible refine (LA.out _).mono ?_); rintro e wx ⟨rfl, rfl⟩))
            generalize a ++ v ++ b = S at *
            generalize evenR S = E at *
            generalize (atomsR v).length = r at *
            go_quiet (first | (go_at_call 15; with_reducible exact quiet_same (DL.out _)) | (go_at_call 11; with_reducible exact quiet_same (DS.out _)))
            have hK2 := hK1.drewN nq
            generalize w1.drewN nq = w2 at hK2 ⊢
            clear hK1
            go_wp2_with fail
            go_loopg [13] (j - k0) (fun gk i wr => ∃ q : Nat, k0 ≤ q ∧ q + gk = j ∧ i = .int .i64 (q : Int) ∧ Kept w wr)
            case atStart => clear kz kt; exact ⟨k0, Nat.le_refl _, by omega, by rw [show max x 0 = (k0 : Int) by have := HK.out; omega], hK2⟩
            case round =>
              clear hK2 DS hst
              obtain ⟨q, hkq, hq, rfl, hK3⟩ := hrel
              by_cases hqj : q < j
              · have hst := hB.out q
                rw [H5.out q hkq hqj] at hst
                have SU := fun W => sub_any E q r W (by have := sz.out; unfold maxLen; omega) ⟨by omega, by omega⟩ ⟨by omega, by omega⟩
                rw [hS.out q (by omega)] at SU
                generalize partOf S q r = pq at SU hst
                have DS := Lib.hid SU
                clear SU
                have i1 : (q : Int) < (j : Int) := by omega
                go_wp2_with fail
                go_quiet (first | (go_at_call 15; with_reducible exact quiet_same (DL.out _)) | (go_at_call 11; with_reducible exact quiet_same (DS.out _)))
                go_wp2_with fail
                go_roundg (gk - 1)
                case measure => clear kz kt; omega
                case rel => clear kz kt; exact ⟨q + 1, by omega, by omega, by go_num, hK3.drewN _⟩
              · have i1 : ¬ (q : Int) < (j : Int) := by omega
                by_cases hla : lenR a < x
                · have dl : decide (lenR a < x) = true := by simpa using hla
                  go_wp2_with (go_at_call 15; (with_reducible refine (LA.out _).mono ?_); rintro e wx ⟨rfl, rfl⟩)
                  go_ret
                  exact ⟨rfl, hK3⟩
                · have dl : decide (lenR a < x) = false := by simpa using hla
                  have dj : decide ((j : Int) ≤ lenR a) = true := by have := H6.out (by omega); simpa using this
                  go_wp2_with (go_at_call 15; (with_reducible refine (LA.out _).mono ?_); rintro e wx ⟨rfl, rfl⟩)
                  go_ret
                  exact ⟨rfl, hK3⟩
  · rcases Nat.lt_or_ge 4096 a.size with g1 | g1
    · have d1 : decide ((4096 : Int) < (a.size : Int)) = true := by rw [decide_eq_true_eq]; omega
      clear hg
      go_enter Try.func8, Try.ntmps8
      go_wp2_with (go_at_call 10; refine AW.out.mono ?_; rintro e w1 ⟨rfl, hK1⟩; clear AW)
      go_ret
      exact ⟨rfl, hK1⟩
    · have d1 : decide ((4096 : Int) < (a.size : Int)) = false := by rw [decide_eq_false_iff_not]; omega
      rcases Nat.lt_or_ge 4096 v.size with g2 | g2
      · have d2 : decide ((4096 : Int) < (v.size : Int)) = true := by rw [decide_eq_true_eq]; omega
        clear hg
        go_enter Try.func8, Try.ntmps8
        go_wp2_with (go_at_call 10; refine AW.out.mono ?_; rintro e w1 ⟨rfl, hK1⟩; clear AW)
        go_ret
        exact ⟨rfl, hK1⟩
      · have d2 : decide ((4096 : Int) < (v.size : Int)) = false := by rw [decide_eq_false_iff_not]; omega
        have d3 : decide ((4096 : Int) < (b.size : Int)) = true := by rw [decide_eq_true_eq]; omega
        clear hg
        go_enter Try.func8, Try.ntmps8
        go_wp2_with (go_at_call 10; refine AW.out.mono ?_; rintro e w1 ⟨rfl, hK1⟩; clear AW)
        go_ret
        exact ⟨rfl, hK1⟩
end Go.Proofs.Ytnmibcmeaakljaa
