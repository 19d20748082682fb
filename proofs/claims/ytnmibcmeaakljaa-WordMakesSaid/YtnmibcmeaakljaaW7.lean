/- The reference's Sub; Find, both. -/
import Derived.Test.YtnmibcmeaakljaaW6
namespace Go.Proofs.Ytnmibcmeaakljaa
open Go.RowKit

theorem own_cap {w : World} {base e size n : Nat} {A : Option Addr} {c : Nat} {xs : List Value} (h : w.ownsRow base e size (.slice A n c) n xs) : n ≤ c ∧ c ≤ maxLen ∧ ((A = none ∧ n = 0 ∧ c = 0) ∨ ∃ g, A = some ⟨g, 0, none⟩) := by
  rcases h.2 with ⟨h, h0⟩ | ⟨g, cap, cur, hv, _, hh, hnc, hm, _⟩
  · injection h with h1 h2 h3
    exact ⟨by omega, by unfold maxLen; omega, .inl ⟨h1, h0, h3⟩⟩
  · injection hv with hA _ hc
    subst hc
    exact ⟨hnc, hm, .inr ⟨g, hA⟩⟩
theorem ReadsT.part {α : Type} {V : α → Value} {w : World} {B b o : Nat} {xs : List α} (_hV : ∀ x, (V x).cells = #[V x]) (h : ReadsT V w B 1 (some ⟨b, o, none⟩) xs) (l m : Nat) : ReadsT V w B 1 (some ⟨b, o + l, none⟩) ((xs.take m).drop l) := fun j hj => by
  have hj' : l + j < xs.length := by simp at hj; omega
  obtain ⟨b', o', h1, h2, h3⟩ := h (l + j) hj'
  cases h1
  refine ⟨b, o + l, rfl, h2, fun i hi => ?_⟩
  have := h3 i hi
  rw [show o + l + j * 1 + i = o + (l + j) * 1 + i by omega, this]
  congr 2
  simp
theorem ReadsT.none_ {α : Type} {V : α → Value} {w : World} {B : Nat} {A : Option Addr} {xs : List α} (h : xs = []) : ReadsT V w B 1 A xs := fun j hj => by subst h; simp at hj
theorem sub_eq {s : ByteArray} {k m : Nat} (ho : s.size % 2 = 0) (h : k + m ≤ (atomsR s).length) : ofR (((atomsR s).take (k + m)).drop k) = s.extract (2 * k) (2 * (k + m)) := by
  rw [← atoms_extract, of_atoms]
  rw [ByteArray.size_extract]
  rw [atoms_length] at h
  omega
theorem mem_part {l : List Int} {a b : Nat} (h : ∀ x ∈ l, u16 x) : ∀ x ∈ (l.take a).drop b, u16 x := fun x hx => h x (List.mem_of_mem_take (List.mem_of_mem_drop hx))
set_option maxRecDepth 100000 in
set_option maxHeartbeats 1000000 in
theorem rsub_any (s : ByteArray) (i n : Int) (w : World) (hs : s.size ≤ 1000000) (hi : i64 i) (hn : i64 n) :
    Calls Try.prog 12 #[.string s, .int .i64 i, .int .i64 n] w fun e w' => e = .returned (.tuple #[.string (subR s i n).1, .int .i64 (subR s i n).2]) ∧ Kept w w' := by
  obtain ⟨i0, i1⟩ := hi
  obtain ⟨n0, n1⟩ := hn
  by_cases ho : s.size % 2 = 1
  · have HE : Hid (subR s i n = (⟨#[]⟩, 2)) := by show subR s i n = _; unfold subR oddR; rw [decide_eq_true ho]; rfl
    have d : ((s.size : Int) % 2 == 1) = true := by simp; omega
    clear ho
    go_enter Try.func12, Try.ntmps12
    go_wp2_with fail
    go_ret2
    exact ⟨by rw [HE.out]; rfl, Turned.refl _ _⟩
  · have d : ((s.size : Int) % 2 == 1) = false := by simp; omega
    have C := Lib.hid (ratoms_any s w hs)
    have hln := atoms_length s
    have hL : lenR s = ((atomsR s).length : Int) := by unfold lenR; omega
    have hb : (atomsR s).length ≤ 500000 := by omega
    have HW : Hid (withinR s i n = decide (0 ≤ i ∧ 0 ≤ n ∧ i ≤ ((atomsR s).length : Int) ∧ n ≤ ((atomsR s).length : Int) - i)) := by
      show withinR s i n = _
      unfold withinR
      rw [hL]
    have HS : Hid (subR s i n = if withinR s i n then (s.extract (2 * i).toNat (2 * (i + n)).toNat, 0) else (⟨#[]⟩, 5)) := by
      show subR s i n = _; unfold subR oddR; rw [decide_eq_false ho]; rfl
    have HO := Lib.hid (show s.size % 2 = 0 by omega)
    clear ho hL hln
    go_enter Try.func12, Try.ntmps12
    go_wp2_with fail
    refine C.out.mono ?_
    rintro e w1 ⟨v, rfl, hown, hK⟩
    obtain ⟨A, c, rfl⟩ := own_slice hown
    clear C
    by_cases h1 : 0 ≤ i
    · have d1 : decide (i < 0) = false := by simpa using h1
      by_cases h2 : 0 ≤ n
      · have d2 : decide (n < 0) = false := by simpa using h2
        by_cases h3 : i ≤ ((atomsR s).length : Int)
        · have d3 : decide (((atomsR s).length : Int) < i) = false := by simpa using h3
          by_cases h4 : n ≤ ((atomsR s).length : Int) - i
          · have d4 : decide (((atomsR s).length : Int) - i < n) = false := by simpa using h4
            obtain ⟨k, rfl⟩ : ∃ k : Nat, i = k := ⟨i.toNat, by omega⟩
            obtain ⟨m, rfl⟩ : ∃ m : Nat, n = m := ⟨n.toNat, by omega⟩
            have HE : Hid (subR s k m = (ofR (((atomsR s).take (k + m)).drop k), 0)) := by
              show subR s k m = _
              rw [HS.out, HW.out, decide_eq_true ⟨h1, h2, h3, h4⟩, sub_eq HO.out (by omega)]
              rw [if_pos rfl]
              congr 2
            have hlen : ((((atomsR s).take (k + m)).drop k).length) = m := by simp; omega
            have HU := Lib.hid (mem_part (a := k + m) (b := k) (atoms_u16 s))
            obtain ⟨q1, q2, q3⟩ := own_cap hown
            have HR := Lib.hid (ReadsT.of_one (V := atV) (fun _ => rfl) hown)
            unfold maxLen at q2
            have q4 : (k : Int) + (m : Int) ≤ (c : Int) := by omega
            clear HS HW HO hown
            by_cases hck : c = k
            · subst hck
              obtain rfl : m = 0 := by omega
              have hnil : ((atomsR s).take (c + 0)).drop c = [] := by rw [← List.length_eq_zero_iff]; omega
              rw [hnil] at HE
              have CC := Lib.hid (rof_any A 0 [] w1 (by simp) (ReadsT.none_ rfl) (by simp))
              clear q3 HR hlen hnil
              go_wp2_with fail
              refine CC.out.mono ?_
              rintro e w2 ⟨rfl, hK2⟩
              go_wp2_with fail
              go_ret2
              exact ⟨by rw [HE.out]; rfl, hK.then_ hK2 (fun _ _ h => h)⟩
            · obtain ⟨g, rfl⟩ : ∃ g, A = some ⟨g, 0, none⟩ := by
                rcases q3 with ⟨_, _, h⟩ | h
                · omega
                · exact h
              have HR2 := Lib.hid (HR.out.part (fun _ => rfl) k (k + m))
              have CO := rof_any (some ⟨g, 0 + k, none⟩) (c - k) _ w1 (by omega) HR2.out HU.out
              rw [hlen, Nat.zero_add] at CO
              have CC := Lib.hid CO
              clear CO q3 HR hlen
              go_wp2_with fail
              refine CC.out.mono ?_
              rintro e w2 ⟨rfl, hK2⟩
              go_wp2_with fail
              go_ret2
              exact ⟨by rw [HE.out]; rfl, hK.then_ hK2 (fun _ _ h => h)⟩
          · have d4 : decide (((atomsR s).length : Int) - i < n) = true := by simp; omega
            have HE : Hid (subR s i n = (⟨#[]⟩, 5)) := by show subR s i n = _; rw [HS.out, HW.out, decide_eq_false (by omega)]; rfl
            clear HS HW HO hown
            go_wp2_with fail
            go_ret2
            exact ⟨by rw [HE.out]; rfl, hK⟩
        · have d3 : decide (((atomsR s).length : Int) < i) = true := by simp; omega
          have HE : Hid (subR s i n = (⟨#[]⟩, 5)) := by show subR s i n = _; rw [HS.out, HW.out, decide_eq_false (by omega)]; rfl
          clear HS HW HO hown
          go_wp2_with fail
          go_ret2
          exact ⟨by rw [HE.out]; rfl, hK⟩
      · have d2 : decide (n < 0) = true := by simp; omega
        have HE : Hid (subR s i n = (⟨#[]⟩, 5)) := by show subR s i n = _; rw [HS.out, HW.out, decide_eq_false (by omega)]; rfl
        clear HS HW HO hown
        go_wp2_with fail
        go_ret2
        exact ⟨by rw [HE.out]; rfl, hK⟩
    · have d1 : decide (i < 0) = true := by simp; omega
      have HE : Hid (subR s i n = (⟨#[]⟩, 5)) := by show subR s i n = _; rw [HS.out, HW.out, decide_eq_false (by omega)]; rfl
      clear HS HW HO hown
      go_wp2_with fail
      go_ret2
      exact ⟨by rw [HE.out]; rfl, hK⟩
end Go.Proofs.Ytnmibcmeaakljaa
