/- The reference's Swap. -/
import Derived.Test.YtnmibcmeaakljaaW11
namespace Go.Proofs.Ytnmibcmeaakljaa
open Go.RowKit

theorem swap_eq {s v : ByteArray} {k m : Nat} (ho : s.size % 2 = 0) (hv : v.size % 2 = 0) :
    ofR ((atomsR s).take k ++ atomsR v ++ (atomsR s).drop (k + m)) = s.extract 0 (2 * k) ++ v ++ s.extract (2 * (k + m)) s.size := by
  have hl := atoms_length s
  have e1 : (atomsR s).take k = atomsR (s.extract (2 * 0) (2 * k)) := by rw [atoms_extract]; simp
  have e2 : (atomsR s).drop (k + m) = atomsR (s.extract (2 * (k + m)) (2 * (s.size / 2))) := by rw [atoms_extract, List.take_of_length_le (by omega)]
  have e3 : 2 * (s.size / 2) = s.size := by omega
  rw [of_append, of_append, e1, e2, of_atoms hv, of_atoms (by rw [ByteArray.size_extract]; omega), of_atoms (by rw [ByteArray.size_extract]; omega), e3]

set_option maxRecDepth 100000 in
set_option maxHeartbeats 2000000 in
theorem rswap_any (s : ByteArray) (i n : Int) (v : ByteArray) (w : World) (hs : s.size ≤ 1000000) (hv : v.size ≤ 1000000) (hi : i64 i) (hn : i64 n) :
    Calls Try.prog 30 #[.string s, .int .i64 i, .int .i64 n, .string v] w fun e w' => e = .returned (.tuple #[.string (swapR s i n v).1, .int .i64 (swapR s i n v).2]) ∧ Kept w w' := by
  obtain ⟨t0, hi0, hz0, hz1, hz2⟩ := info_parts info_atom
  have HE : Hid (swapR s i n v = if oddR s || oddR v then (⟨#[]⟩, 2) else if withinR s i n then (if 8 < lenR s - n + lenR v then (⟨#[]⟩, 4) else (s.extract 0 (2 * i).toNat ++ v ++ s.extract (2 * (i + n)).toNat s.size, 0)) else (⟨#[]⟩, 5)) := Lib.hid rfl
  by_cases ho : s.size % 2 = 1
  · have d : ((s.size : Int) % 2 == 1) = true := by simp; omega
    have HE2 : Hid (swapR s i n v = (⟨#[]⟩, 2)) := by
      have h := HE.out
      unfold oddR at h
      rw [decide_eq_true ho, Bool.true_or] at h
      exact h
    clear HE ho
    go_enter Try.func30, Try.ntmps30
    go_wp2_with fail
    go_ret2
    exact ⟨by rw [HE2.out]; rfl, Turned.refl _ _⟩
  · have d : ((s.size : Int) % 2 == 1) = false := by simp; omega
    by_cases ho2 : v.size % 2 = 1
    · have d2 : ((v.size : Int) % 2 == 1) = true := by simp; omega
      have HE2 : Hid (swapR s i n v = (⟨#[]⟩, 2)) := by
        have h := HE.out
        unfold oddR at h
        rw [decide_eq_true ho2, Bool.or_true] at h
        exact h
      clear HE ho ho2
      go_enter Try.func30, Try.ntmps30
      go_wp2_with fail
      go_ret2
      exact ⟨by rw [HE2.out]; rfl, Turned.refl _ _⟩
    · have d2 : ((v.size : Int) % 2 == 1) = false := by simp; omega
      have CS := rsub_any s i n w hs hi hn
      have HS : Hid (subR s i n = if withinR s i n then (s.extract (2 * i).toNat (2 * (i + n)).toNat, 0) else (⟨#[]⟩, 5)) := by
        show subR s i n = _; unfold subR oddR; rw [decide_eq_false ho]; rfl
      have HE1 : Hid (swapR s i n v = if withinR s i n then (if 8 < lenR s - n + lenR v then (⟨#[]⟩, 4) else (s.extract 0 (2 * i).toNat ++ v ++ s.extract (2 * (i + n)).toNat s.size, 0)) else (⟨#[]⟩, 5)) := by
        have h := HE.out
        unfold oddR at h
        rw [decide_eq_false ho, decide_eq_false ho2] at h
        exact h
      clear HE
      rcases hw : withinR s i n with _ | _
      · have HE2 : Hid (swapR s i n v = (⟨#[]⟩, 5)) := by have h := HE1.out; rw [hw] at h; exact h
        have HS2 : subR s i n = (⟨#[]⟩, 5) := by have h := HS.out; rw [hw] at h; exact h
        rw [HS2] at CS
        have CC := Lib.hid CS
        clear CS HS HS2 HE1 hw ho ho2
        go_enter Try.func30, Try.ntmps30
        go_wp2_with fail
        refine CC.out.mono ?_
        rintro e w1 ⟨rfl, hK⟩
        go_wp2_with fail
        go_ret2
        exact ⟨by rw [HE2.out]; rfl, hK⟩
      · have HS2 : subR s i n = (s.extract (2 * i).toNat (2 * (i + n)).toNat, 0) := by have h := HS.out; rw [hw] at h; exact h
        rw [HS2] at CS
        have CC := Lib.hid CS
        have hls := atoms_length s
        have hlv := atoms_length v
        obtain ⟨b0, b1, b2, b3⟩ := of_decide_eq_true hw
        have hL : lenR s = ((atomsR s).length : Int) := by unfold lenR; omega
        have hM : lenR v = ((atomsR v).length : Int) := by unfold lenR; omega
        rw [hL] at b2 b3
        obtain ⟨k, rfl⟩ : ∃ k : Nat, i = k := ⟨i.toNat, by omega⟩
        obtain ⟨m, rfl⟩ : ∃ m : Nat, n = m := ⟨n.toNat, by omega⟩
        have hkm : k + m ≤ (atomsR s).length := by omega
        have HQ := Lib.hid (swap_eq (s := s) (v := v) (k := k) (m := m) (by omega) (by omega))
        have HE2 : Hid (swapR s k m v = if 8 < ((atomsR s).length : Int) - m + ((atomsR v).length : Int) then (⟨#[]⟩, 4) else (ofR ((atomsR s).take k ++ atomsR v ++ (atomsR s).drop (k + m)), 0)) := by
          have h := HE1.out
          rw [hw, if_pos rfl, hL, hM] at h
          rw [HQ.out]
          rw [show (2 * (k : Int)).toNat = 2 * k by omega, show (2 * ((k : Int) + (m : Int))).toNat = 2 * (k + m) by omega] at h
          exact h
        have HU : Hid (∀ x ∈ (atomsR s).take k ++ atomsR v ++ (atomsR s).drop (k + m), u16 x) := by
          intro x hx
          rcases List.mem_append.1 hx with hx | hx
          · rcases List.mem_append.1 hx with hx | hx
            · exact atoms_u16 s x (List.mem_of_mem_take hx)
            · exact atoms_u16 v x hx
          · exact atoms_u16 s x (List.mem_of_mem_drop hx)
        have l1 : ((atomsR s).take k).length = k := by rw [List.length_take]; omega
        have l2 : ((atomsR s).drop (k + m)).length = (atomsR s).length - (k + m) := List.length_drop
        have q1 : (atomsR s).length ≤ 500000 := by omega
        have q2 : (atomsR v).length ≤ 500000 := by omega
        clear CS HS HS2 HE1 hw ho ho2 HQ hL hM hls hlv
        go_enter Try.func30, Try.ntmps30
        go_wp2_with fail
        refine CC.out.mono ?_
        rintro e w1 ⟨rfl, hK1⟩
        have CA := Lib.hid (ratoms_any s w1 hs)
        clear CC
        go_wp2_with fail
        refine CA.out.mono ?_
        rintro e w2 ⟨v2, rfl, hown2, hK2⟩
        obtain ⟨A, c, rfl⟩ := own_slice hown2
        obtain ⟨p1, p2, p3⟩ := own_cap hown2
        unfold maxLen at p2
        have HR := ReadsT.of_one (V := atV) (fun _ => rfl) hown2
        have hK3 := hK1.then_ hK2 (fun _ _ h => h)
        have hsz := hK3.size
        obtain ⟨A1, x1, r1⟩ := slice_hi (P := Try.prog) (t := 29) Try.underlying29 hi0 hz1 HR rfl p1 k (by omega)
        obtain ⟨A3, x3, r3⟩ := slice_lo (P := Try.prog) (t := 29) Try.underlying29 hi0 hz1 HR rfl p1 ((k : Int) + (m : Int)) (k + m) (by omega) hkm
        have hE := own_empty w2 w2.heap.size 32 1 (Nat.le_refl _)
        have hT0 : Turned (fun q => w2.heap.size ≤ q) w2 (w2.alloc (.cells #[] 32)) := (Turned.refl _ _).alloc _
        have r1' := r1.below (fun q hq => hT0.block q hq (fun h => by omega))
        have hsz4 := hT0.size
        clear HR p3 CA hown2 hK1 hK2 r1
        have Y1 := Lib.hid l1
        have Y2 := Lib.hid l2
        clear l1 l2
        go_wp2_with (at_builtin; refine wpList_append_reads (V := atV) rfl (.tmp 36) (.tmp 39) 29 rfl w2.heap.size 32 t0 _ 1 2 Try.underlying29 hi0 hz0 hz1 hz2 rfl (by omega) (fun _ => rfl) atV_one _ _ _ rfl hE _ A1 k c ((atomsR s).take k) rfl Y1.out r1' (by unfold maxLen; omega) (by omega) hsz4 ?_; intro v5 w5 O5 hg5)
        have hT5 := hT0.grown hg5 (fun q h hq => own_base hE h)
        rw [cellsOf_one (fun _ => rfl), List.nil_append] at O5
        have CV := Lib.hid (ratoms_any v w5 hv)
        clear hE r1' hg5 hsz4 x1 hT0
        go_wp2_with fail
        refine CV.out.mono ?_
        rintro e w6 ⟨v6, rfl, hown6, hK6⟩
        obtain ⟨A6, c6, rfl⟩ := own_slice hown6
        have r6 := ReadsT.of_one (V := atV) (fun _ => rfl) hown6
        have hT6 := hT5.then_ hK6 (fun _ _ h => h.elim)
        have O6 := own_turned O5 hK6 (fun _ _ h => h)
        have hsz6 := hT6.size
        clear CV hown6 O5 hK6 hT5
        obtain ⟨N, hN⟩ : ∃ N, 0 + k + (atomsR v).length + ((atomsR s).length - (k + m)) = N := ⟨_, rfl⟩
        have hNb : N ≤ 2000000 := by omega
        have HN := Lib.hid hN
        have HN8 : Hid (8 < N ↔ 8 < ((atomsR s).length : Int) - m + ((atomsR v).length : Int)) := by
          show 8 < N ↔ 8 < ((atomsR s).length : Int) - m + ((atomsR v).length : Int)
          omega
        have HLL : Hid (((atomsR s).take k ++ atomsR v ++ (atomsR s).drop (k + m)).length = N) := by
          show ((atomsR s).take k ++ atomsR v ++ (atomsR s).drop (k + m)).length = N
          rw [List.length_append, List.length_append, Y1.out, Y2.out]
          omega
        clear hN
        have R3 := Lib.hid r3
        clear r3
        by_cases h9 : 8 < N
        · have d9 : decide ((8 : Int) < (N : Int)) = true := by rw [decide_eq_true_eq]; omega
          have HE3 : Hid (swapR s k m v = (⟨#[]⟩, 4)) := by
            have h := HE2.out
            rw [if_pos (HN8.out.1 h9)] at h
            exact h
          clear HN8 HE2
          go_wp2_with (first
            | (at_builtin; refine wpList_append_reads (V := atV) rfl (.tmp 41) (.tmp 43) 29 rfl w2.heap.size 32 t0 _ 1 2 Try.underlying29 hi0 hz0 hz1 hz2 rfl (by omega) (fun _ => rfl) atV_one _ _ _ rfl O6 _ A6 _ c6 (atomsR v) rfl rfl r6 (by unfold maxLen; omega) (by omega) hsz6 ?_; intro v8 w8 O8 hg8; have hT8 := hT6.grown hg8 (fun q h hq => own_base O6 h); have r8 := R3.out.below (fun q hq => hT8.block q hq (fun h => by omega)))
            | (at_builtin; refine wpList_append_reads (V := atV) rfl (.tmp 45) (.tmp 50) 29 rfl w2.heap.size 32 t0 _ 1 2 Try.underlying29 hi0 hz0 hz1 hz2 rfl (by omega) (fun _ => rfl) atV_one _ _ _ rfl O8 _ A3 _ (c - (k + m)) ((atomsR s).drop (k + m)) rfl Y2.out r8 (by unfold maxLen; omega) (by omega) hT8.size ?_; rw [HN.out]; intro v9 w9 O9 hg9; obtain ⟨A9, c9, rfl⟩ := own_slice O9))
          have hT9 := hT8.grown hg9 (fun q h hq => own_base O8 h)
          go_ret2
          exact ⟨by rw [HE3.out]; rfl, hK3.then_ hT9 (fun q hq h => by omega)⟩
        · have d9 : decide ((8 : Int) < (N : Int)) = false := by rw [decide_eq_false_iff_not]; omega
          have HE3 : Hid (swapR s k m v = (ofR ((atomsR s).take k ++ atomsR v ++ (atomsR s).drop (k + m)), 0)) := by
            have h := HE2.out
            rw [if_neg (mt HN8.out.2 h9)] at h
            exact h
          clear HN8 HE2
          go_wp2_with (first
            | (at_builtin; refine wpList_append_reads (V := atV) rfl (.tmp 41) (.tmp 43) 29 rfl w2.heap.size 32 t0 _ 1 2 Try.underlying29 hi0 hz0 hz1 hz2 rfl (by omega) (fun _ => rfl) atV_one _ _ _ rfl O6 _ A6 _ c6 (atomsR v) rfl rfl r6 (by unfold maxLen; omega) (by omega) hsz6 ?_; intro v8 w8 O8 hg8; have hT8 := hT6.grown hg8 (fun q h hq => own_base O6 h); have r8 := R3.out.below (fun q hq => hT8.block q hq (fun h => by omega)))
            | (at_builtin; refine wpList_append_reads (V := atV) rfl (.tmp 45) (.tmp 50) 29 rfl w2.heap.size 32 t0 _ 1 2 Try.underlying29 hi0 hz0 hz1 hz2 rfl (by omega) (fun _ => rfl) atV_one _ _ _ rfl O8 _ A3 _ (c - (k + m)) ((atomsR s).drop (k + m)) rfl Y2.out r8 (by unfold maxLen; omega) (by omega) hT8.size ?_; rw [HN.out]; intro v9 w9 O9 hg9; obtain ⟨A9, c9, rfl⟩ := own_slice O9))
          have hT9 := hT8.grown hg9 (fun q h hq => own_base O8 h)
          rw [cellsOf_one (fun _ => rfl), cellsOf_one (fun _ => rfl), ← List.map_append, ← List.map_append] at O9
          generalize (atomsR s).take k ++ atomsR v ++ (atomsR s).drop (k + m) = X at O9 HLL HU HE3
          obtain rfl : X.length = N := HLL.out
          have CC := Lib.hid (rof_any A9 c9 X w9 (by omega) (ReadsT.of_one (V := atV) (fun _ => rfl) O9) HU.out)
          refine CC.out.mono ?_
          rintro e w10 ⟨rfl, hK10⟩
          go_wp2_with fail
          go_ret2
          exact ⟨by rw [HE3.out]; rfl, (hK3.then_ hT9 (fun q hq h => by omega)).then_ hK10 (fun _ _ h => h)⟩
end Go.Proofs.Ytnmibcmeaakljaa
