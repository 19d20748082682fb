/- Sets: May, both; Equal; the laws' large. -/
import Derived.Test.YtnicfiochnkjbaaC6
import Derived.Test.YtnicfiochnkjbaaApp
import Derived.Deep.QuietTactic
import Derived.Deep.RegionHeld3
namespace Go.Proofs.Ytnicfiochnkjbaa
open Go.RowKit

/-! ### plain terms -/
def wordAt (l : List ByteArray) (i : Nat) : ByteArray := l.getD i ⟨#[]⟩
theorem wordAt_eq {l : List ByteArray} {i : Nat} (h : i < l.length) : wordAt l i = l[i] := by
  unfold wordAt
  rw [List.getD_eq_getElem?_getD, List.getElem?_eq_getElem h]
  rfl
/-- Does the word at a place do, behind the one ahead of it? -/
def goodAt (l : List ByteArray) (i : Nat) : Bool := mayR (wordAt l i) && (decide (i = 0) || lessR (wordAt l (i - 1)) (wordAt l i))
def goods (l : List ByteArray) (n : Nat) : Bool := (List.range n).all (goodAt l)
/-- May a set be? -/
def setR (l : List ByteArray) : Bool := decide (1 ≤ l.length) && (decide (l.length ≤ 16) && goods l l.length)
theorem goods_succ {l : List ByteArray} {n : Nat} (h : goods l n = true) (h1 : goodAt l n = true) : goods l (n + 1) = true := by
  unfold goods at *
  rw [List.range_succ, List.all_append, h]
  simpa using h1
theorem goods_false {l : List ByteArray} {n m : Nat} (h : n < m) (h1 : goodAt l n = false) : goods l m = false := by
  unfold goods
  rw [Bool.eq_false_iff]
  intro h2
  have := List.all_eq_true.1 h2 n (List.mem_range.2 h)
  rw [h1] at this
  cases this
def largeR (k : Nat) (l : List ByteArray) : Bool := decide (30 < l.length) || l.any (fun s => decide (k < s.size))
theorem largeR_false {k : Nat} {l : List ByteArray} (h : largeR k l = false) : l.length ≤ 30 ∧ ∀ s ∈ l, s.size ≤ k := by
  unfold largeR at h
  simp only [Bool.or_eq_false_iff, decide_eq_false_iff_not, List.any_eq_false] at h
  exact ⟨by omega, fun s hs => by have := h.2 s hs; simp at this; omega⟩

theorem Turned.to {a b c : World} (h : Kept a b) (k : Kept b c) : Kept a c := h.then_ k (fun _ _ h => h)

set_option maxRecDepth 100000 in
set_option maxHeartbeats 1000000 in
theorem large600_any (A : Option Addr) (c B : Nat) (l : List ByteArray) (w : World) (hl : l.length ≤ maxLen) (hs : ∀ s ∈ l, s.size ≤ maxLen) (hr : ReadsT Value.string w B 1 A l) :
    Calls Try.prog 15 #[.slice A l.length c] w fun e w' => e = .returned (.bool (largeR 600 l)) ∧ w = w' := by
  unfold maxLen at hl hs
  have HE : Hid (largeR 600 l = (decide (30 < l.length) || l.any (fun s => decide (600 < s.size)))) := Lib.hid rfl
  have HS := Lib.hid hs
  have HR := Lib.hid hr
  clear hs hr
  by_cases h1 : l.length ≤ 30
  · have d1 : decide ((30 : Int) < (l.length : Int)) = false := by rw [decide_eq_false_iff_not]; omega
    go_enter Try.func15, Try.ntmps15
    go_wp2_with fail
    go_loopg [9] l.length (fun gk i wr => ∃ j : Nat, j + gk = l.length ∧ i = .int .i64 j ∧ (∀ s ∈ l.take j, s.size ≤ 600) ∧ w = wr)
    case atStart => exact ⟨0, Nat.zero_add _, rfl, by simp, rfl⟩
    case round =>
      obtain ⟨j, hj, rfl, hq, rfl⟩ := hrel
      have HQ := Lib.hid hq
      clear hq
      by_cases hjl : j < l.length
      · obtain ⟨b, o, rfl, _, hc⟩ := ReadsT.cell_one (fun _ => rfl) HR.out hjl
        have hx := HS.out _ (List.getElem_mem hjl)
        have HT := Lib.hid (List.take_succ_eq_append_getElem hjl)
        have HM := Lib.hid (List.getElem_mem hjl)
        generalize l[j] = x at hc HT hx HM
        have i0 : (0 : Int) ≤ (j : Int) := by omega
        have i1 : (j : Int) < (l.length : Int) := by omega
        by_cases hx2 : x.size ≤ 600
        · have d3 : decide ((600 : Int) < (x.size : Int)) = false := by rw [decide_eq_false_iff_not]; omega
          have HN : Hid (∀ y ∈ l.take (j + 1), y.size ≤ 600) := by
            intro y hy
            rw [HT.out] at hy
            rcases List.mem_append.1 hy with hy | hy
            · exact HQ.out y hy
            · rw [List.mem_singleton.1 hy]; exact hx2
          clear HT HQ HM
          go_wp2_with fail
          go_roundg (gk - 1)
          case measure => omega
          case rel => exact ⟨j + 1, by omega, by go_num, HN.out, rfl⟩
        · have d3 : decide ((600 : Int) < (x.size : Int)) = true := by rw [decide_eq_true_eq]; omega
          have HN : Hid (largeR 600 l = true) := by
            have : l.any (fun s => decide (600 < s.size)) = true := List.any_eq_true.2 ⟨x, HM.out, by rw [decide_eq_true_eq]; omega⟩
            show largeR 600 l = true
            rw [HE.out, this, Bool.or_true]
          clear HT HQ HM
          go_wp2_with fail
          go_ret
          exact ⟨by rw [HN.out]; rfl, rfl⟩
      · have hjj : j = l.length := by omega
        have i1 : ¬ (j : Int) < (l.length : Int) := by omega
        have HN : Hid (largeR 600 l = false) := by
          show largeR 600 l = false
          rw [HE.out, decide_eq_false (by omega), Bool.false_or, List.any_eq_false]
          intro s hs
          have := HQ.out s (by rw [hjj, List.take_length]; exact hs)
          simp
          omega
        clear HQ hjj
        go_wp2_with fail
        go_ret
        exact ⟨by rw [HN.out]; rfl, rfl⟩
  · have d1 : decide ((30 : Int) < (l.length : Int)) = true := by rw [decide_eq_true_eq]; omega
    have HN : Hid (largeR 600 l = true) := by
      show largeR 600 l = true
      rw [HE.out, decide_eq_true (by omega), Bool.true_or]
    clear HE
    go_enter Try.func15, Try.ntmps15
    go_wp2_with fail
    go_ret
    exact ⟨by rw [HN.out]; rfl, rfl⟩

set_option maxRecDepth 100000 in
set_option maxHeartbeats 1000000 in
theorem large100_any (A : Option Addr) (c B : Nat) (l : List ByteArray) (w : World) (hl : l.length ≤ maxLen) (hs : ∀ s ∈ l, s.size ≤ maxLen) (hr : ReadsT Value.string w B 1 A l) :
    Calls Try.prog 30 #[.slice A l.length c] w fun e w' => e = .returned (.bool (largeR 100 l)) ∧ w = w' := by
  unfold maxLen at hl hs
  have HE : Hid (largeR 100 l = (decide (30 < l.length) || l.any (fun s => decide (100 < s.size)))) := Lib.hid rfl
  have HS := Lib.hid hs
  have HR := Lib.hid hr
  clear hs hr
  by_cases h1 : l.length ≤ 30
  · have d1 : decide ((30 : Int) < (l.length : Int)) = false := by rw [decide_eq_false_iff_not]; omega
    go_enter Try.func30, Try.ntmps30
    go_wp2_with fail
    go_loopg [9] l.length (fun gk i wr => ∃ j : Nat, j + gk = l.length ∧ i = .int .i64 j ∧ (∀ s ∈ l.take j, s.size ≤ 100) ∧ w = wr)
    case atStart => exact ⟨0, Nat.zero_add _, rfl, by simp, rfl⟩
    case round =>
      obtain ⟨j, hj, rfl, hq, rfl⟩ := hrel
      have HQ := Lib.hid hq
      clear hq
      by_cases hjl : j < l.length
      · obtain ⟨b, o, rfl, _, hc⟩ := ReadsT.cell_one (fun _ => rfl) HR.out hjl
        have hx := HS.out _ (List.getElem_mem hjl)
        have HT := Lib.hid (List.take_succ_eq_append_getElem hjl)
        have HM := Lib.hid (List.getElem_mem hjl)
        generalize l[j] = x at hc HT hx HM
        have i0 : (0 : Int) ≤ (j : Int) := by omega
        have i1 : (j : Int) < (l.length : Int) := by omega
        by_cases hx2 : x.size ≤ 100
        · have d3 : decide ((100 : Int) < (x.size : Int)) = false := by rw [decide_eq_false_iff_not]; omega
          have HN : Hid (∀ y ∈ l.take (j + 1), y.size ≤ 100) := by
            intro y hy
            rw [HT.out] at hy
            rcases List.mem_append.1 hy with hy | hy
            · exact HQ.out y hy
            · rw [List.mem_singleton.1 hy]; exact hx2
          clear HT HQ HM
          go_wp2_with fail
          go_roundg (gk - 1)
          case measure => omega
          case rel => exact ⟨j + 1, by omega, by go_num, HN.out, rfl⟩
        · have d3 : decide ((100 : Int) < (x.size : Int)) = true := by rw [decide_eq_true_eq]; omega
          have HN : Hid (largeR 100 l = true) := by
            have : l.any (fun s => decide (100 < s.size)) = true := List.any_eq_true.2 ⟨x, HM.out, by rw [decide_eq_true_eq]; omega⟩
            show largeR 100 l = true
            rw [HE.out, this, Bool.or_true]
          clear HT HQ HM
          go_wp2_with fail
          go_ret
          exact ⟨by rw [HN.out]; rfl, rfl⟩
      · have hjj : j = l.length := by omega
        have i1 : ¬ (j : Int) < (l.length : Int) := by omega
        have HN : Hid (largeR 100 l = false) := by
          show largeR 100 l = false
          rw [HE.out, decide_eq_false (by omega), Bool.false_or, List.any_eq_false]
          intro s hs
          have := HQ.out s (by rw [hjj, List.take_length]; exact hs)
          simp
          omega
        clear HQ hjj
        go_wp2_with fail
        go_ret
        exact ⟨by rw [HN.out]; rfl, rfl⟩
  · have d1 : decide ((30 : Int) < (l.length : Int)) = true := by rw [decide_eq_true_eq]; omega
    have HN : Hid (largeR 100 l = true) := by
      show largeR 100 l = true
      rw [HE.out, decide_eq_true (by omega), Bool.true_or]
    clear HE
    go_enter Try.func30, Try.ntmps30
    go_wp2_with fail
    go_ret
    exact ⟨by rw [HN.out]; rfl, rfl⟩

theorem take_eq_succ' {α : Type} {xs ys : List α} {j : Nat} (hx : j < xs.length) (hy : j < ys.length) (h : xs.take j = ys.take j) (e : xs[j] = ys[j]) : xs.take (j + 1) = ys.take (j + 1) := by
  rw [List.take_succ_eq_append_getElem hx, List.take_succ_eq_append_getElem hy, h, e]
set_option maxRecDepth 100000 in
set_option maxHeartbeats 1000000 in
theorem equal_any (A1 A2 : Option Addr) (c1 c2 B1 B2 : Nat) (xs ys : List ByteArray) (w : World) (_hx : xs.length ≤ 1000000) (_hy : ys.length ≤ 1000000) (h1 : ReadsT Value.string w B1 1 A1 xs) (h2 : ReadsT Value.string w B2 1 A2 ys) :
    Calls Try.prog 38 #[.slice A1 xs.length c1, .slice A2 ys.length c2] w fun e w' => e = .returned (.bool (decide (xs = ys))) ∧ ∃ n, w' = w.drewN n := by
  by_cases hl : xs.length = ys.length
  · have hlb : ((xs.length : Int) != (ys.length : Int)) = false := by simp [hl]
    have HL := Lib.hid hl
    have hl' : xs.length ≤ ys.length := by omega
    clear hl
    go_enter Try.func38, Try.ntmps38
    go_wp2_with fail
    go_loopg [5] xs.length (fun gk i wr => ∃ j : Nat, j + gk = xs.length ∧ i = .int .i64 j ∧ xs.take j = ys.take j ∧ ∃ n, wr = w.drewN n)
    case atStart => exact ⟨0, Nat.zero_add _, rfl, rfl, 0, rfl⟩
    case round =>
      obtain ⟨j, hj, rfl, heq, n, rfl⟩ := hrel
      by_cases hjl : j < xs.length
      · obtain ⟨b1, o1, rfl, _, d1⟩ := ReadsT.cell_one (fun _ => rfl) h1 hjl
        obtain ⟨b2, o2, rfl, _, d2⟩ := ReadsT.cell_one (fun _ => rfl) h2 (j := j) (by omega)
        have HQ := Lib.hid heq
        obtain ⟨x, hxx⟩ : ∃ x, x = xs[j] := ⟨_, rfl⟩
        obtain ⟨y, hyy⟩ : ∃ y, y = ys[j]'(by omega) := ⟨_, rfl⟩
        rw [← hxx] at d1
        rw [← hyy] at d2
        have HX := Lib.hid hxx
        have HY := Lib.hid hyy
        have i0 : (0 : Int) ≤ (j : Int) := by omega
        have i1 : (j : Int) < (xs.length : Int) := by omega
        have i2 : (j : Int) < (ys.length : Int) := by omega
        clear h1 h2 heq hxx hyy
        by_cases he : x = y
        · have hb : (x.toList == y.toList) = true := by rw [bytes_beq, decide_eq_true he]
          have HE := Lib.hid he
          clear he
          go_wp2_with fail
          go_quiet (fail)
          go_wp2_with fail
          go_roundg (gk - 1)
          case measure => omega
          case rel => exact ⟨j + 1, by omega, by go_num, take_eq_succ' hjl (by omega) HQ.out (by rw [← HX.out, ← HY.out, HE.out]), _, rfl⟩
        · have hb : (x.toList == y.toList) = false := by rw [bytes_beq, decide_eq_false he]
          have HE := Lib.hid he
          clear he
          go_wp2_with fail
          go_quiet (fail)
          go_wp2_with fail
          go_ret
          refine ⟨?_, n + nq, by rw [World.drewN_drewN]⟩
          rw [decide_eq_false]
          · rfl
          · intro h
            refine HE.out ?_
            rw [HX.out, HY.out]
            simp only [h]
      · have hjj : j = xs.length := by omega
        clear h1 h2
        have HR : Hid (xs = ys) := by
          rw [hjj, List.take_length, List.take_of_length_le (by have := HL.out; omega)] at heq
          exact heq
        clear heq
        go_wp2_with fail
        go_ret
        exact ⟨by rw [decide_eq_true HR.out]; rfl, _, rfl⟩
  · have hlb : ((xs.length : Int) != (ys.length : Int)) = true := by simp; omega
    have HR : Hid (decide (xs = ys) = false) := decide_eq_false (fun h => hl (by rw [h]))
    clear hl
    go_enter Try.func38, Try.ntmps38
    go_wp2_with fail
    go_ret
    exact ⟨by rw [HR.out]; rfl, 0, rfl⟩
end Go.Proofs.Ytnicfiochnkjbaa
