/- The contract of the reference's Macs. -/
import Derived.Test.YtkldepflfomegaaRef4
namespace Go.Proofs.Ytkldepflfomegaa
open Go.RowKit
open Go.Maps (Keyed)

/-! ### plain: the first of its kind -/
def macList (M : List Made) : List Mac := M.map (·.1)
theorem macs_fold_mem (c : Int) (m : Mac) : ∀ (M : List Made) (acc : List Mac), m ∈ M.foldl (macsStep c) acc ↔ m ∈ acc ∨ (m.1 = c ∧ m ∈ macList M)
  | [], acc => by simp [macList]
  | x :: M, acc => by
    simp only [List.foldl_cons]
    rw [macs_fold_mem c m M (macsStep c acc x)]
    unfold macsStep
    simp only [macList, List.map_cons, List.mem_cons]
    by_cases hc : x.1.1 = c
    · rw [if_pos hc]
      by_cases hin : hasB x.1 acc = true
      · rw [if_pos hin]
        rw [hasB_iff] at hin
        constructor
        · rintro (h | h)
          · exact .inl h
          · exact .inr ⟨h.1, .inr h.2⟩
        · rintro (h | ⟨h1, h2 | h2⟩)
          · exact .inl h
          · exact .inl (h2 ▸ hin)
          · exact .inr ⟨h1, h2⟩
      · rw [if_neg hin]
        simp only [List.mem_append, List.mem_singleton]
        constructor
        · rintro ((h | h) | h)
          · exact .inl h
          · exact .inr ⟨h ▸ hc, .inl h⟩
          · exact .inr ⟨h.1, .inr h.2⟩
        · rintro (h | ⟨h1, h2 | h2⟩)
          · exact .inl (.inl h)
          · exact .inl (.inr h2)
          · exact .inr ⟨h1, h2⟩
    · rw [if_neg hc]
      constructor
      · rintro (h | h)
        · exact .inl h
        · exact .inr ⟨h.1, .inr h.2⟩
      · rintro (h | ⟨h1, h2 | h2⟩)
        · exact .inl h
        · exact absurd (h2 ▸ h1) hc
        · exact .inr ⟨h1, h2⟩
theorem macs_has (M : List Made) (c : Int) (m : Mac) (h : m.1 = c) : hasB m (macsOf M c) = hasB m (macList M) := by
  rw [Bool.eq_iff_iff, hasB_iff, hasB_iff]
  unfold macsOf
  rw [macs_fold_mem]
  simp [h]
theorem macs_first {M : List Made} {c : Int} {j : Nat} (hj : j < M.length) (h1 : M[j].1.1 = c) (h2 : hasB M[j].1 (macList (M.take j)) = false) : macsOf (M.take (j + 1)) c = macsOf (M.take j) c ++ [M[j].1] := by
  rw [macs_succ hj]
  unfold macsStep
  rw [if_pos h1, macs_has _ _ _ h1, h2]
  rfl
theorem macs_later {M : List Made} {c : Int} {j : Nat} (hj : j < M.length) (h : M[j].1.1 ≠ c ∨ hasB M[j].1 (macList (M.take j)) = true) : macsOf (M.take (j + 1)) c = macsOf (M.take j) c := by
  rw [macs_succ hj]
  unfold macsStep
  by_cases h1 : M[j].1.1 = c
  · rw [if_pos h1, macs_has _ _ _ h1]
    rcases h with h | h
    · exact absurd h1 h
    · rw [h]; rfl
  · rw [if_neg h1]
theorem hasB_mac_succ {M : List Made} {m : Mac} {i : Nat} (hi : i < M.length) : hasB m (macList (M.take (i + 1))) = (hasB m (macList (M.take i)) || decide (M[i].1 = m)) := by
  unfold hasB macList
  rw [List.take_succ_eq_append_getElem hi, List.map_append, List.any_append]
  simp

set_option maxRecDepth 100000 in
set_option maxHeartbeats 2000000 in
theorem rmacs_any (p : Nat) (s1 s2 s3 : Value) (S : List Sig) (M : List Made) (T : List Int) (ch : Int) (w : World) (hl : M.length ≤ 2000) (h : RefIs w p s1 s2 s3 S M T) :
    Calls Try.prog 26 #[.pointer (some ⟨p, 0, none⟩), .int .u16 ch] w fun e w' => ∃ v, e = .returned v ∧ w'.ownsRow w.heap.size 36 4 v (macsOf M ch).length (((macsOf M ch).map macV).flatMap (·.cells.toList)) ∧ Kept w w' := by
  obtain ⟨i0, hi0, hz0, hz1, hz2⟩ := info_parts info_mac
  obtain ⟨A, c, rfl⟩ := own_slice h.r2
  have HO := h.r2
  have HB := h.blk
  have hE := own_empty w w.heap.size 36 4 (Nat.le_refl _)
  clear h
  go_enter Try.func26, Try.ntmps26
  go_wp2_with fail
  go_loopg [5, 6] M.length (fun gk v i wr => ∃ j : Nat, j + gk = M.length ∧ i = .int .i64 j ∧ wr.ownsRow w.heap.size 36 4 v (macsOf (M.take j) ch).length (((macsOf (M.take j) ch).map macV).flatMap (·.cells.toList)) ∧ Kept w wr)
  case atStart => exact ⟨0, Nat.zero_add _, rfl, hE, (Turned.refl _ _).alloc _⟩
  case round =>
    obtain ⟨j, hj, rfl, hown, hK⟩ := hrel
    have hB := HB.turned hK (fun h => h)
    have hlt := hB.lt
    have hsz := hK.size
    have q0 := hB.cell 1
    simp at q0
    clear hE
    by_cases hjl : j < M.length
    · have HOw := own_turned HO hK (fun _ _ h => h)
      have hA : ∃ g, A = some ⟨g, 0, none⟩ := by
        obtain ⟨g, hg, _⟩ := own_elem madeV (fun _ => rfl) HOw hjl
        exact ⟨g, hg⟩
      obtain ⟨g, rfl⟩ := hA
      have hcell : ∀ i (hi : i < M.length) t, t < 5 → wr.cell? ⟨g, i * 5 + t, none⟩ = (madeV M[i]).cells[t]? := fun i hi t ht => by
        obtain ⟨g', hg', _, hc⟩ := own_elem madeV (fun _ => rfl) HOw hi
        cases hg'
        exact hc t ht
      have HC := Lib.hid hcell
      clear hcell
      obtain ⟨⟨⟨a', wy', sq', s'⟩, y⟩, hM⟩ : ∃ x, x = M[j] := ⟨_, rfl⟩
      have c0 : wr.cell? ⟨g, j * 5, none⟩ = some (.int .u16 a') := by have := HC.out j hjl 0 (by omega); rw [← hM] at this; exact this
      have c1 : wr.cell? ⟨g, j * 5 + 1, none⟩ = some (.int .i64 wy') := by have := HC.out j hjl 1 (by omega); rw [← hM] at this; exact this
      have c2 : wr.cell? ⟨g, j * 5 + 2, none⟩ = some (.int .i64 sq') := by have := HC.out j hjl 2 (by omega); rw [← hM] at this; exact this
      have c3 : wr.cell? ⟨g, j * 5 + 3, none⟩ = some (.string s') := by have := HC.out j hjl 3 (by omega); rw [← hM] at this; exact this
      have i1 : (j : Int) < (M.length : Int) := by omega
      have hj0 : (0 : Int) ≤ (j : Int) := by omega
      have hml : (macsOf (M.take j) ch).length ≤ j := Nat.le_trans (macs_le _ _) (List.length_take_le _ _)
      obtain ⟨bc, hbc⟩ : ∃ b, decide (a' = ch) = b := ⟨_, rfl⟩
      have hcb : (a' == ch) = bc := by rw [← hbc]; rfl
      have HBC := Lib.hid hbc
      have HM := Lib.hid hM
      clear hM hbc
      go_wp2_with fail
      obtain ⟨g1, rfl⟩ : ∃ g1 : Nat, g1 = gk := ⟨_, rfl⟩
      obtain ⟨wo, rfl⟩ : ∃ wo : World, wo = wr := ⟨_, rfl⟩
      go_loopg [7, 8] j (fun g2 f i2 wr2 => ∃ i n : Nat, i + g2 = j ∧ i2 = .int .i64 i ∧ f = .bool (bc && !hasB (a', wy', sq', s') (macList (M.take i))) ∧ wo.drewN n = wr2)
      case atStart => exact ⟨0, 0, Nat.zero_add _, rfl, by simp [macList, hasB], rfl⟩
      case round =>
        obtain ⟨i, n, hi, rfl, rfl, rfl⟩ := hrel
        by_cases hil : i < j
        · have HS := Lib.hid (hasB_mac_succ (m := (a', wy', sq', s')) (show i < M.length by omega))
          obtain ⟨⟨⟨a2, wy2, sq2, s2'⟩, y2⟩, hM2⟩ : ∃ x, x = M[i]'(by omega) := ⟨_, rfl⟩
          rw [← hM2] at HS
          have e0 : wo.cell? ⟨g, i * 5, none⟩ = some (.int .u16 a2) := by have := HC.out i (by omega) 0 (by omega); rw [← hM2] at this; exact this
          have e1 : wo.cell? ⟨g, i * 5 + 1, none⟩ = some (.int .i64 wy2) := by have := HC.out i (by omega) 1 (by omega); rw [← hM2] at this; exact this
          have e2 : wo.cell? ⟨g, i * 5 + 2, none⟩ = some (.int .i64 sq2) := by have := HC.out i (by omega) 2 (by omega); rw [← hM2] at this; exact this
          have e3 : wo.cell? ⟨g, i * 5 + 3, none⟩ = some (.string s2') := by have := HC.out i (by omega) 3 (by omega); rw [← hM2] at this; exact this
          have i2 : (i : Int) < (j : Int) := by omega
          have i3 : (0 : Int) ≤ (i : Int) := by omega
          have i4 : (i : Int) < (M.length : Int) := by omega
          have heq := fun W => eq_mac a' wy' sq' s' a2 wy2 sq2 s2' W
          obtain ⟨bq, hbq⟩ : ∃ b, decide ((a2, wy2, sq2, s2') = (a', wy', sq', s')) = b := ⟨_, rfl⟩
          rw [hbq] at heq
          have HS2 : Hid (hasB (a', wy', sq', s') (macList (M.take (i + 1))) = (hasB (a', wy', sq', s') (macList (M.take i)) || bq)) := by
            show _ = _
            rw [HS.out, hbq]
          clear HS hM2 hown HC hbq HBC HM HOw
          generalize hh : hasB (a', wy', sq', s') (macList (M.take i)) = bh
          rw [hh] at HS2
          clear hh
          obtain ⟨bf, hbf⟩ : ∃ b, (bc && !bh) = b := ⟨_, rfl⟩
          rw [hbf]
          cases bf
          · have HR : Hid ((bc && !(bh || bq)) = false) := by
              show _ = false
              revert hbf; cases bc <;> cases bh <;> cases bq <;> simp
            clear hbf
            go_wp2_with fail
            go_quiet (fail)
            go_wp2_with fail
            go_roundg (gk - 1)
            case measure => omega
            case rel => exact ⟨i + 1, n + nq, by omega, by go_num, by rw [HS2.out, HR.out], rfl⟩
          · have HR : Hid ((bc && !(bh || bq)) = !bq) := by
              show _ = _
              revert hbf; cases bc <;> cases bh <;> cases bq <;> simp
            clear hbf
            cases bq
            all_goals
              go_wp2_with fail
              go_quiet (fail)
              go_wp2_with fail
              go_roundg (gk - 1)
              case measure => omega
              case rel => exact ⟨i + 1, n + nq, by omega, by go_num, by rw [HS2.out, HR.out]; rfl, rfl⟩
        · have hij : i = j := by omega
          subst hij
          have hownN := own_turned hown ((Turned.refl (fun _ => False) wo).drewN n) (fun _ _ h => h)
          have hKN := hK.drewN n
          obtain ⟨bf, hbf⟩ : ∃ b, (bc && !hasB (a', wy', sq', s') (macList (M.take i))) = b := ⟨_, rfl⟩
          rw [hbf]
          cases bf
          · have HE := Lib.hid (macs_later (c := ch) hjl (by
              rw [← HM.out]
              have hb1 := HBC.out
              cases bc with
              | false => exact .inl (by simpa using hb1)
              | true => exact .inr (by simpa using hbf)))
            clear hbf HC
            go_wp2_with fail
            go_roundg (g1 - 1)
            case measure => omega
            case rel => exact ⟨i + 1, by omega, by go_num, by rw [HE.out]; exact hownN, hKN⟩
          · have HE := Lib.hid (macs_first (c := ch) hjl (by
              rw [← HM.out]
              have hb1 := HBC.out
              cases bc with
              | false => simp at hbf
              | true => simpa using hb1) (by
              rw [← HM.out]
              cases bc with
              | false => simp at hbf
              | true => simpa using hbf))
            rw [← HM.out] at HE
            clear hbf HC
            go_wp2_with (at_builtin; refine wpList_append_lies _ (by rfl) _ _ _ (by rfl) w.heap.size 36 i0 _ 4 40 Try.underlying50 hi0 hz0 hz1 hz2 rfl (by omega) u5 _ _ (by rfl) (own_turned hown (((Turned.refl (fun _ => False) wo).alloc _).drewN n) (fun _ _ h => h)) ⟨wo.heap.size, 0, none⟩ 1 1 [.int .u16 a', .int .i64 wy', .int .i64 sq', .string s'] (by rfl) (by rfl) (World.news_of_block (cs := #[.int .u16 a', .int .i64 wy', .int .i64 sq', .string s']) (t := 36) (fr := (0, 0)) (heap_alloc_new wo _)) (by simp [Value.oneCell']) (by omega) (by unfold maxLen; omega) (by omega) (by simp; omega) (wo.heap.size + 1) (by simp) ?_; intro gg cap w3 O3 hg3 hat hlt3)
            go_roundg (g1 - 1)
            case measure => omega
            case rel =>
              refine ⟨i + 1, by omega, by go_num, ?_, ?_⟩
              · rw [HE.out]
                simp only [List.map_append, List.map_cons, List.map_nil, List.flatMap_append, List.flatMap_cons, List.flatMap_nil, List.append_nil, List.length_append, List.length_singleton]
                exact O3
              · exact (((hK.alloc _).drewN n).grown hg3 (fun k h hk => absurd (own_base hown h) (by omega)))
    · have hjj : j = M.length := by omega
      subst hjj
      go_wp2_with fail
      go_ret
      exact ⟨_, rfl, by simpa using hown, hK⟩
end Go.Proofs.Ytkldepflfomegaa
