/- The reference's Cat. -/
import Derived.Test.YtnmibcmeaakljaaW10
namespace Go.Proofs.Ytnmibcmeaakljaa
open Go.RowKit

theorem sumR_len : ∀ l : List ByteArray, sumR l = ((l.flatMap atomsR).length : Int)
  | [] => rfl
  | s :: t => by
    simp only [sumR, List.flatMap_cons, List.length_append, sumR_len t, atoms_length]
    unfold lenR
    omega
theorem sumR_append : ∀ a b : List ByteArray, sumR (a ++ b) = sumR a + sumR b
  | [], b => by simp [sumR]
  | s :: t, b => by simp only [List.cons_append, sumR, sumR_append t b]; omega
theorem sumR_take (l : List ByteArray) (j : Nat) : sumR (l.take j) ≤ sumR l := by
  have h := sumR_append (l.take j) (l.drop j)
  rw [List.take_append_drop] at h
  have := sumR_nn (l.drop j)
  omega
theorem of_join : ∀ l : List ByteArray, anyOdd l = false → ofR (l.flatMap atomsR) = ⟨(joinR l).toArray⟩
  | [], _ => rfl
  | s :: t, h => by
    unfold anyOdd at h
    simp only [List.any_cons, Bool.or_eq_false_iff] at h
    have h1 : s.size % 2 = 0 := by have := h.1; unfold oddR at this; simp at this; omega
    have h2 := of_join t h.2
    rw [List.flatMap_cons, of_append, of_atoms h1, h2]
    apply bytes_eq
    rw [append_list]
    simp [joinR]
theorem flat_u16 (l : List ByteArray) : ∀ x ∈ l.flatMap atomsR, u16 x := fun x hx => by
  obtain ⟨s, _, h⟩ := List.mem_flatMap.1 hx
  exact atoms_u16 s x h
theorem flat_take {l : List ByteArray} {j : Nat} (h : j < l.length) : (l.take (j + 1)).flatMap atomsR = (l.take j).flatMap atomsR ++ atomsR l[j] := by
  rw [List.take_succ_eq_append_getElem h, List.flatMap_append]
  simp
theorem atV_one : ∀ x : Int, ∀ u ∈ (atV x).cells.toList, u.oneCell' = true := fun x u hu => by
  simp [atV, Value.cells] at hu
  subst hu
  rfl

set_option maxRecDepth 100000 in
set_option maxHeartbeats 2000000 in
theorem rcat_any (A : Option Addr) (c : Nat) (l : List ByteArray) (w : World) (hl : l.length ≤ 1000) (hs : ∀ s ∈ l, s.size ≤ 1000000) (hr : ReadsT Value.string w w.heap.size 1 A l) :
    Calls Try.prog 28 #[.slice A l.length c] w fun e w' => e = .returned (.tuple #[.string (catR l).1, .int .i64 (catR l).2]) ∧ Kept w w' := by
  obtain ⟨i0, hi0, hz0, hz1, hz2⟩ := info_parts info_atom
  have hE := own_empty w w.heap.size 32 1 (Nat.le_refl _)
  have HR := Lib.hid hr
  have HS := Lib.hid hs
  clear hr hs
  have hK0 : Kept w (w.alloc (.cells #[] 32)) := (Turned.refl _ _).alloc _
  go_enter Try.func28, Try.ntmps28
  go_wp2_with fail
  generalize w.alloc (.cells #[] 32) = w0 at hE hK0 ⊢
  have hR0 := HR.out.kept hK0
  go_loopg [5] l.length (fun gk i wr => ∃ j : Nat, j + gk = l.length ∧ i = .int .i64 j ∧ anyOdd (l.take j) = false ∧ w0 = wr)
  case atStart => exact ⟨0, Nat.zero_add _, rfl, rfl, rfl⟩
  case round =>
    obtain ⟨j, hj, rfl, ho, rfl⟩ := hrel
    have HO := Lib.hid ho
    clear ho
    by_cases hjl : j < l.length
    · obtain ⟨b, o, rfl, _, hc⟩ := ReadsT.cell_one (fun _ => rfl) hR0 hjl
      have HT := Lib.hid (fun h => anyOdd_take hjl HO.out h)
      have HF := Lib.hid (fun h => anyOdd_true hjl h)
      have i1 : (j : Int) < (l.length : Int) := by omega
      have hss := HS.out _ (List.getElem_mem hjl)
      generalize l[j] = s at hc HT HF hss
      clear hR0
      by_cases hod : s.size % 2 = 1
      · have d : ((s.size : Int) % 2 == 1) = true := by simp; omega
        have HE : Hid (catR l = (⟨#[]⟩, 2)) := by
          have h := HF.out (decide_eq_true hod)
          show catR l = _
          unfold catR
          rw [h]
          rfl
        clear HT HF hod HO
        go_wp2_with fail
        go_ret2
        exact ⟨by rw [HE.out]; rfl, hK0⟩
      · have d : ((s.size : Int) % 2 == 1) = false := by simp; omega
        have HT2 := Lib.hid (HT.out (decide_eq_false hod))
        clear HT HF hod HO
        go_wp2_with fail
        go_roundg (gk - 1)
        case measure => omega
        case rel => exact ⟨j + 1, by omega, by go_num, HT2.out, rfl⟩
    · have hjj : j = l.length := by omega
      subst hjj
      rw [List.take_length] at HO
      go_wp2_with fail
      go_loopg [4, 6] l.length (fun gk v i wr => ∃ j : Nat, j + gk = l.length ∧ i = .int .i64 j ∧ sumR (l.take j) ≤ 8 ∧ wr.ownsRow w.heap.size 32 1 v (((l.take j).flatMap atomsR).length) (((l.take j).flatMap atomsR).map atV) ∧ Kept w wr)
      case atStart => exact ⟨0, Nat.zero_add _, rfl, by simp [sumR], hE, hK0⟩
      case round =>
        clear hE hR0 hK0
        obtain ⟨j, hj, rfl, h8, hown, hK⟩ := hrel
        by_cases hjl : j < l.length
        · obtain ⟨b, o, rfl, hbl, hc⟩ := ReadsT.cell_one (fun _ => rfl) HR.out hjl
          have c0 : wr.cell? ⟨b, o + j, none⟩ = some (.string l[j]) := (hK.cell (p := ⟨b, o + j, none⟩) hbl (fun h => h)).trans hc
          have hs := HS.out _ (List.getElem_mem hjl)
          have HJ := Lib.hid (flat_take hjl)
          have HL := Lib.hid (sumR_len (l.take (j + 1)))
          have HM := Lib.hid (sumR_take l (j + 1))
          have hlen : ((l.take j).flatMap atomsR).length ≤ 8 := by have := sumR_len (l.take j); omega
          have i1 : (j : Int) < (l.length : Int) := by omega
          generalize l[j] = s at c0 hs HJ
          have hla : (atomsR s).length ≤ 500000 := by rw [atoms_length]; omega
          have CC := Lib.hid (ratoms_any s wr hs)
          have HN : Hid (((l.take (j + 1)).flatMap atomsR).length = ((l.take j).flatMap atomsR).length + (atomsR s).length) := by
            show ((l.take (j + 1)).flatMap atomsR).length = _
            rw [HJ.out, List.length_append]
          generalize (l.take j).flatMap atomsR = X at hown HJ hlen HN
          clear hc h8
          go_wp2_with fail
          refine CC.out.mono ?_
          rintro e w2 ⟨v2, rfl, hown2, hK2⟩
          obtain ⟨A2, c2, rfl⟩ := own_slice hown2
          have HR2 := ReadsT.of_one (V := atV) (fun _ => rfl) hown2
          have hown3 := own_turned hown hK2 (fun _ _ h => h)
          have hK3 := hK.then_ hK2 (fun _ _ h => h)
          have hsz := hK3.size
          clear CC hown2
          have hNb : X.length + (atomsR s).length ≤ 600000 := by omega
          obtain ⟨N, hN⟩ : ∃ N, X.length + (atomsR s).length = N := ⟨_, rfl⟩
          have HN2 := Lib.hid hN
          rw [hN] at hNb HN
          clear hN
          by_cases h9 : 8 < N
          · have d : decide ((8 : Int) < (N : Int)) = true := by rw [decide_eq_true_eq]; omega
            have HE : Hid (catR l = (⟨#[]⟩, 4)) := by
              show catR l = _
              unfold catR
              have a1 := HL.out
              have a2 := HM.out
              have a3 := HN.out
              rw [HO.out, if_neg (by simp), if_neg (by omega)]
            clear HN HL HM
            go_wp2_with (at_builtin; refine wpList_append_reads (V := atV) rfl _ _ 29 rfl w.heap.size 32 i0 _ 1 2 Try.underlying29 hi0 hz0 hz1 hz2 rfl (by omega) (fun _ => rfl) atV_one _ _ _ rfl hown3 _ A2 _ c2 (atomsR s) rfl rfl HR2 (by unfold maxLen; omega) (by omega) hsz ?_; rw [HN2.out]; intro v4 w4 O4 hg4; obtain ⟨A4, c4, rfl⟩ := own_slice O4)
            have hK4 : Kept w w4 := hK3.grown hg4 (fun k h hk => absurd (own_base hown3 h) (by omega))
            go_ret2
            exact ⟨by rw [HE.out]; rfl, hK4⟩
          · have d : decide ((8 : Int) < (N : Int)) = false := by rw [decide_eq_false_iff_not]; omega
            have H8 : Hid (sumR (l.take (j + 1)) ≤ 8) := by
              show sumR (l.take (j + 1)) ≤ 8
              have a1 := HL.out
              have a3 := HN.out
              omega
            clear HL HM
            go_wp2_with (at_builtin; refine wpList_append_reads (V := atV) rfl _ _ 29 rfl w.heap.size 32 i0 _ 1 2 Try.underlying29 hi0 hz0 hz1 hz2 rfl (by omega) (fun _ => rfl) atV_one _ _ _ rfl hown3 _ A2 _ c2 (atomsR s) rfl rfl HR2 (by unfold maxLen; omega) (by omega) hsz ?_; rw [HN2.out]; intro v4 w4 O4 hg4; obtain ⟨A4, c4, rfl⟩ := own_slice O4)
            have hK4 : Kept w w4 := hK3.grown hg4 (fun k h hk => absurd (own_base hown3 h) (by omega))
            rw [cellsOf_one (fun _ => rfl), ← List.map_append, ← HJ.out] at O4
            go_roundg (gk - 1)
            case measure => omega
            case rel => exact ⟨j + 1, by omega, by go_num, H8.out, by rw [HN.out]; exact O4, hK4⟩
        · have hjj : j = l.length := by omega
          subst hjj
          rw [List.take_length] at hown h8
          have HE : Hid (catR l = (ofR (l.flatMap atomsR), 0)) := by
            show catR l = _
            unfold catR
            rw [HO.out, if_neg (by simp), if_pos (by omega), of_join l HO.out]
          obtain ⟨A4, c4, rfl⟩ := own_slice hown
          have hlen : (l.flatMap atomsR).length ≤ 8 := by have := sumR_len l; omega
          have CC := Lib.hid (rof_any A4 c4 _ wr (by omega) (ReadsT.of_one (V := atV) (fun _ => rfl) hown) (flat_u16 l))
          generalize l.flatMap atomsR = X at CC HE hlen
          clear hown h8
          go_wp2_with fail
          refine CC.out.mono ?_
          rintro e w2 ⟨rfl, hK2⟩
          go_wp2_with fail
          go_ret2
          exact ⟨by rw [HE.out]; rfl, hK.then_ hK2 (fun _ _ h => h)⟩
end Go.Proofs.Ytnmibcmeaakljaa
