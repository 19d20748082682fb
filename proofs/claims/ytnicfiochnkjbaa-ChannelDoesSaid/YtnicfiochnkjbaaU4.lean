/- The document's table of channels: Start. -/
import Derived.Test.YtnicfiochnkjbaaU3
namespace Go.Proofs.Ytnicfiochnkjbaa
open Go.RowKit
section
variable {w w' W w3 : World} {base r : Nat} {room c : Int} {I : List TEnt} {G : List Int} {who : List ByteArray}
def Start19 (w : World) (base r : Nat) (room c : Int) (who : List ByteArray) (I : List TEnt) (G : List Int) (e : Ending) (w' : World) : Prop :=
  (openEr c who I G ≠ 0 ∧ e = .returned (.tuple #[.int .u16 0, .int .i64 (openEr c who I G)]) ∧ RefT w' base r room I G ∧ Kept w w') ∨
  (openEr c who I G = 0 ∧ ∃ y : TEnt, y.ch = c ∧ y.who = who ∧ y.last = -1 ∧ (∀ g, y.ownB = some g → w.heap.size ≤ g) ∧ e = .returned (.tuple #[.int .u16 (outT room I), .int .i64 0]) ∧ RefT w' base r room (cutT room I ++ [y]) (goneT room I G) ∧ Turned (UFoot base w) w w')
theorem UFoot.since (hK : Kept w W) {k : Nat} (hk : k < w.heap.size) (h : UFoot base W k) : UFoot base w k := by
  obtain ⟨h1, ty, cs, h2, h3⟩ := h
  refine ⟨h1, ty, cs, ?_, h3⟩
  unfold Blk at h2 ⊢
  rw [← hK.block k hk (fun h => h)]
  exact h2
theorem UFoot.back {k : Nat} (hT : Turned (UFoot base w) w W) (h : UFoot base W k) (hk : k < w.heap.size) : UFoot base w k := by
  by_cases hr : UFoot base w k
  · exact hr
  · obtain ⟨h1, ty, cs, h2, h3⟩ := h
    refine ⟨h1, ty, cs, ?_, h3⟩
    unfold Blk at h2 ⊢
    rw [← hT.block k hk hr]
    exact h2
set_option maxRecDepth 100000 in
set_option maxHeartbeats 4000000 in
theorem start19_any (h : RefT w base r room I G) (hI : I.length ≤ 1000) (hG : G.length ≤ 1000) (hc : u16 c) (hroom : 1 ≤ room) (hd : ∀ x ∈ I, x.ch ∉ G) (A : Option Addr) (cp : Nat) (hl : who.length ≤ 1000) (hs : ∀ s ∈ who, s.size ≤ 1000000) (hr : ReadsT Value.string w w.heap.size 1 A who) (hrw : ∀ b o, 0 < who.length → A = some ⟨b, o, none⟩ → b < w.heap.size → ¬ UFoot base w b) :
    Calls Try.prog 32 #[.pointer (some ⟨r, 0, none⟩), .int .u16 c, .slice A who.length cp] w (Start19 w base r room c who I G) := by
  have HH := Lib.hid h
  have DM := Lib.hid (rset_any A cp who w hl hs hr)
  by_cases hk : c / 8192 = 2
  rotate_left
  · have hE : openEr c who I G = 1 := by unfold openEr; rw [if_pos hk]
    have hb : decide (c < 16384) = true ∨ (decide (c < 16384) = false ∧ decide (24576 ≤ c) = true) := by
      by_cases h1 : c < 16384
      · exact .inl (decide_eq_true h1)
      · exact .inr ⟨decide_eq_false h1, decide_eq_true (by omega)⟩
    have HE := Lib.hid hE
    clear hk hE hr hrw hd hs h DM
    rcases hb with d1 | ⟨d1, d2⟩
    all_goals
      go_enter Try.func32, Try.ntmps32
      go_wp2_with fail
      go_ret2
      exact .inl ⟨by rw [HE.out]; decide, by rw [HE.out]; rfl, HH.out, Turned.refl _ _⟩
  have d1 : decide (c < 16384) = false := by rw [decide_eq_false_iff_not]; omega
  have d2 : decide (24576 ≤ c) = false := by rw [decide_eq_false_iff_not]; omega
  rcases hset : setR who with _ | _
  · have HE : Hid (openEr c who I G = 2) := by show openEr c who I G = 2; unfold openEr; rw [if_neg (by simp [hk]), if_pos hset]
    rw [hset] at DM
    clear hk hset hr hrw hd hs h
    go_enter Try.func32, Try.ntmps32
    go_wp2_with fail
    refine DM.out.mono ?_
    rintro e w2 ⟨rfl, hK2⟩
    clear DM
    go_wp2_with fail
    go_ret2
    exact .inl ⟨by rw [HE.out]; decide, by rw [HE.out]; rfl, HH.out.kept hK2, hK2⟩
  rw [hset] at DM
  have CP := fun W (hK : Kept w W) => place19_any (HH.out.kept hK) (by omega) c
  have CG := fun W (hK : Kept w W) => gone19_any (HH.out.kept hK) (by omega) c
  rcases hp : placeT c I with _ | i
  rotate_left
  · have HE : Hid (openEr c who I G = 11) := by show openEr c who I G = 11; unfold openEr; rw [if_neg (by simp [hk]), if_neg (by simp [hset]), if_pos (found_some hp)]
    rw [hp] at CP
    simp only [placeI] at CP
    have DP := Lib.hid CP
    have i0 : decide ((0 : Int) ≤ (i : Int)) = true := by rw [decide_eq_true_eq]; omega
    clear hk hset hr hrw hd hs h CP CG hp
    go_enter Try.func32, Try.ntmps32
    go_wp2_with fail
    refine DM.out.mono ?_
    rintro e w2 ⟨rfl, hK2⟩
    clear DM
    go_wp2_with fail
    refine (DP.out _ hK2).mono ?_
    rintro e wx ⟨rfl, rfl⟩
    clear DP
    go_wp2_with fail
    go_ret2
    exact .inl ⟨by rw [HE.out]; decide, by rw [HE.out]; rfl, HH.out.kept hK2, hK2⟩
  rw [hp] at CP
  simp only [placeI] at CP
  have DP := Lib.hid CP
  rcases hg : goneB c G with _ | _
  rotate_left
  · have HE : Hid (openEr c who I G = 21) := by show openEr c who I G = 21; unfold openEr; rw [if_neg (by simp [hk]), if_neg (by simp [hset]), if_neg (by rw [found_place hp]; simp), if_pos hg]
    rw [hg] at CG
    have DG := Lib.hid CG
    clear hk hset hr hrw hd hs h CP CG hp hg
    go_enter Try.func32, Try.ntmps32
    go_wp2_with fail
    refine DM.out.mono ?_
    rintro e w2 ⟨rfl, hK2⟩
    clear DM
    go_wp2_with fail
    refine (DP.out _ hK2).mono ?_
    rintro e wx ⟨rfl, rfl⟩
    clear DP
    go_wp2_with fail
    refine (DG.out _ hK2).mono ?_
    rintro e wx ⟨rfl, rfl⟩
    clear DG
    go_wp2_with fail
    go_ret2
    exact .inl ⟨by rw [HE.out]; decide, by rw [HE.out]; rfl, HH.out.kept hK2, hK2⟩
  rw [hg] at CG
  have DG := Lib.hid CG
  have HE : Hid (openEr c who I G = 0) := by show openEr c who I G = 0; unfold openEr; rw [if_neg (by simp [hk]), if_neg (by simp [hset]), if_neg (by rw [found_place hp]; simp), if_neg (by simp [hg])]
  have HD := Lib.hid hd
  have HR := Lib.hid hr
  have HRW := Lib.hid hrw
  have HSET := Lib.hid hset
  obtain ⟨i0, hi0, hz0, hz1, hz2⟩ := info_parts info_open19
  obtain ⟨j0, hj0, hy0, hy1, hy2⟩ := info_parts info_wordz
  clear hk hset hr hrw hd hs h CP CG hp hg
  go_enter Try.func32, Try.ntmps32
  go_wp2_with fail
  refine DM.out.mono ?_
  rintro e w2 ⟨rfl, hK2⟩
  clear DM
  go_wp2_with fail
  refine (DP.out _ hK2).mono ?_
  rintro e wx ⟨rfl, rfl⟩
  clear DP
  go_wp2_with fail
  refine (DG.out _ hK2).mono ?_
  rintro e wx ⟨rfl, rfl⟩
  clear DG
  have hR2 := HH.out.kept hK2
  obtain ⟨v1, vo1, hB1, hO1, hQ1⟩ := hR2.row
  obtain ⟨A1, c1, rfl⟩ := own_slice hO1
  have b0 : w2.cell? ⟨r, 0, none⟩ = some (.slice A1 I.length c1) := hB1.cell 0
  have b2 : w2.cell? ⟨r, 2, none⟩ = some (.int .i64 room) := hB1.cell 2
  go_wp2_with fail
  refine wp_region_held_drew (S := fun W => W.cell? ⟨r, 0, none⟩ = some (.slice A1 I.length c1) ∧ W.cell? ⟨r, 2, none⟩ = some (.int .i64 room)) (by kernel_rfl) ⟨b0, b2⟩ (fun hHeld => ?_)
  refine held_take 0 25 (v := ?_) ⟨_, rfl, rfl, by rfl, ?_⟩ (by kernel_rfl) (by kernel_rfl) (by kernel_rfl) (fun _ _ _ h => h) hHeld ?_
  rotate_left
  · (intro w hSw; (try dsimp only at hSw); go_simp; try with_reducible rfl)
  simp only [Act.put, List.setIfInBounds_toArray, List.set_cons_zero, List.set_cons_succ]
  refine held_take 1 26 (v := ?_) ⟨_, rfl, rfl, by rfl, ?_⟩ (by kernel_rfl) (by kernel_rfl) (by kernel_rfl) (fun _ _ _ h => h) hHeld ?_
  rotate_left
  · (intro w hSw; (try dsimp only at hSw); go_simp; try with_reducible rfl)
  simp only [Act.put, List.setIfInBounds_toArray, List.set_cons_zero, List.set_cons_succ]
  refine held_take 2 27 (v := ?_) ⟨_, rfl, rfl, by rfl, ?_⟩ (by kernel_rfl) (by kernel_rfl) (by kernel_rfl) (fun _ _ _ h => h) hHeld ?_
  rotate_left
  · (intro w hSw; (try dsimp only at hSw); go_simp; try with_reducible rfl)
  simp only [Act.put, List.setIfInBounds_toArray, List.set_cons_zero, List.set_cons_succ]
  refine held_take 3 28 (v := ?_) ⟨_, rfl, rfl, by rfl, ?_⟩ (by kernel_rfl) (by kernel_rfl) (by kernel_rfl) (fun _ _ _ h => h) hHeld ?_
  rotate_left
  · (intro w hSw; (try dsimp only at hSw); go_simp; try with_reducible rfl)
  simp only [Act.put, List.setIfInBounds_toArray, List.set_cons_zero, List.set_cons_succ]
  refine held_take 4 29 (v := ?_) ⟨_, rfl, rfl, by rfl, ?_⟩ (by kernel_rfl) (by kernel_rfl) (by kernel_rfl) (fun _ _ _ h => h) hHeld ?_
  rotate_left
  · (intro w hSw; (try dsimp only at hSw); go_simp; try with_reducible rfl)
  simp only [Act.put, List.setIfInBounds_toArray, List.set_cons_zero, List.set_cons_succ]
  refine held_take 5 30 (v := ?_) ⟨_, rfl, rfl, by rfl, ?_⟩ (by kernel_rfl) (by kernel_rfl) (by kernel_rfl) (fun _ _ _ h => h) hHeld ?_
  rotate_left
  · (intro w hSw; (try dsimp only at hSw); go_simp; try with_reducible rfl)
  simp only [Act.put, List.setIfInBounds_toArray, List.set_cons_zero, List.set_cons_succ]
  refine held_take 6 31 (v := ?_) ⟨_, rfl, rfl, by rfl, ?_⟩ (by kernel_rfl) (by kernel_rfl) (by kernel_rfl) (fun _ _ _ h => h) hHeld ?_
  rotate_left
  · (intro w hSw; (try dsimp only at hSw); go_simp; try with_reducible rfl)
  simp only [Act.put, List.setIfInBounds_toArray, List.set_cons_zero, List.set_cons_succ]
  refine held_take 7 32 (v := ?_) ⟨_, rfl, rfl, by rfl, ?_⟩ (by kernel_rfl) (by kernel_rfl) (by kernel_rfl) (fun _ _ _ h => h) hHeld ?_
  rotate_left
  · (intro w hSw; (try dsimp only at hSw); go_simp; try with_reducible rfl)
  simp only [Act.put, List.setIfInBounds_toArray, List.set_cons_zero, List.set_cons_succ]
  refine held_take 8 33 (v := ?_) ⟨_, rfl, rfl, by rfl, ?_⟩ (by kernel_rfl) (by kernel_rfl) (by kernel_rfl) (fun _ _ _ h => h) hHeld ?_
  rotate_left
  · (intro w hSw; (try dsimp only at hSw); go_simp; try with_reducible rfl)
  simp only [Act.put, List.setIfInBounds_toArray, List.set_cons_zero, List.set_cons_succ]
  refine held_take 9 34 (v := ?_) ⟨_, rfl, rfl, by rfl, ?_⟩ (by kernel_rfl) (by kernel_rfl) (by kernel_rfl) (fun _ _ _ h => h) hHeld ?_
  rotate_left
  · (intro w hSw; (try dsimp only at hSw); go_simp; try with_reducible rfl)
  simp only [Act.put, List.setIfInBounds_toArray, List.set_cons_zero, List.set_cons_succ]
  refine wpAnyH_done (by kernel_rfl) ?_ _
  obtain ⟨df, hdf⟩ : ∃ d : Bool, d = decide (room ≤ (I.length : Int)) := ⟨_, rfl⟩
  rw [← hdf]
  have HDF := Lib.hid hdf
  clear hdf
  go_upto_if 34 with (fail)
  go_cut [8] (fun s8 wx => s8 = .int .u16 (outT room I) ∧ RefT wx base r room (cutT room I) (goneT room I G) ∧ Turned (UFoot base w) w wx)
  case first =>
    by_cases hf : room ≤ (I.length : Int)
    · have hd : df = true := by rw [HDF.out]; exact decide_eq_true hf
      subst hd
      obtain ⟨x, I1, rfl⟩ : ∃ x I1, I = x :: I1 := by
        cases I with
        | nil => simp at hf; omega
        | cons x I1 => exact ⟨x, I1, rfl⟩
      have hop : openT x.ch (x :: I1) G = some x := by
        unfold openT foundT
        rw [show goneB x.ch G = false from by unfold goneB; exact decide_eq_false (HD.out x (by simp))]
        simp
      have hR3 := hR2.kept ((Turned.refl _ w2).drew)
      have CC := close19_any hR3 (by omega) (by omega) (HH.out.okE x (by simp))
      unfold Close19 at CC
      rw [hop, (open_some hop).2.1] at CC
      simp only [Option.isSome, if_true, dropE_head] at CC
      have DC := Lib.hid CC
      have HO : Hid (outT room (x :: I1) = x.ch ∧ cutT room (x :: I1) = I1 ∧ goneT room (x :: I1) G = G ++ [x.ch]) := by
        unfold goneT cutT outT
        rw [if_pos hf, if_pos hf, if_pos hf]
        exact ⟨rfl, rfl, rfl⟩
      have HRR := ReadsT.of_own (V := entV) (fun _ => rfl) hO1
      obtain ⟨b, o, rfl, hbl, hcell⟩ := HRR 0 (by simp)
      have a0 : w2.cell? ⟨b, o, none⟩ = some (.int .u16 x.ch) := by have := hcell 0 (by omega); simpa [entV, TEnt.cs, Value.cells] using this
      have n1 : (0 : Int) < ((x :: I1).length : Int) := by rw [List.length_cons]; omega
      clear CC hop hf HRR hcell
      go_wp2_with fail
      refine DC.out.mono ?_
      rintro e w4 ⟨rfl, hR4, hT4⟩
      clear DC
      go_wp2_with fail
      go_meet
      refine ⟨by rw [HO.out.1], by rw [HO.out.2.1, HO.out.2.2]; exact hR4, ?_⟩
      exact ((hK2.drew).mono (fun _ _ h => h.elim)).then_ hT4 (fun k hk h => UFoot.since hK2.drew hk h)
    · have hd : df = false := by rw [HDF.out]; exact decide_eq_false hf
      subst hd
      have HO : Hid (outT room I = 0 ∧ cutT room I = I ∧ goneT room I G = G) := by
        unfold goneT cutT outT
        rw [if_neg hf, if_neg hf, if_neg hf]
        exact ⟨rfl, rfl, rfl⟩
      clear hf
      go_wp2_with fail
      go_meet
      refine ⟨by rw [HO.out.1], by rw [HO.out.2.1, HO.out.2.2]; exact hR2.kept ((Turned.refl _ w2).drew), (hK2.drew).mono (fun _ _ h => h.elim)⟩
  case rest =>
    obtain ⟨rfl, hR6, hT6⟩ := hcut
    clear hR2 hB1 hO1 hQ1 b0 b2 hK2 HDF
    have hcl : (cutT room I).length ≤ 1000 := by
      unfold cutT
      split
      · rw [List.length_tail]; omega
      · exact hI
    obtain ⟨I2, hI2⟩ : ∃ I2, I2 = cutT room I := ⟨_, rfl⟩
    rw [← hI2] at hR6 hcl
    have HI2 := Lib.hid hI2
    clear hI2
    obtain ⟨v2, vo2, hB6, hO6, hQ6⟩ := hR6.row
    obtain ⟨A2, c2, rfl⟩ := own_slice hO6
    have b0 : wc.cell? ⟨r, 0, none⟩ = some (.slice A2 I2.length c2) := hB6.cell 0
    have hE5 := own_empty wc.drew wc.heap.size 51 1 (Nat.le_refl _)
    have hrd5 : ReadsT Value.string (wc.drew.alloc (.cells #[] 51)) w.heap.size 1 A who := fun j hj => by
      obtain ⟨b', o', h1, h2, h3⟩ := HR.out j hj
      refine ⟨b', o', h1, h2, fun i hi => ?_⟩
      exact ((hT6.drew.alloc (.cells #[] 51)).cell (p := ⟨b', o' + j * 1 + i, none⟩) h2 (HRW.out b' o' (by omega) h1 h2)).trans (h3 i hi)
    have hsz5 : wc.heap.size ≤ (wc.drew.alloc (.cells #[] 51)).heap.size := by rw [World.size_alloc]; exact Nat.le_succ _
    have hsz6 := hT6.size
    have hge := HH.out.ge
    have hlr := HH.out.lt
    have hlc := hB6.lt
    go_wp2_with fail
    go_region_law (first | (refine step_append_reads (V := Value.string) (by rfl) (.tmp 51) (.tmp 52) 23 (by rfl) wc.heap.size 51 j0 _ 1 16 Try.underlying23 hj0 hy0 hy1 hy2 rfl (by omega) (fun _ => rfl) string_one _ _ _ (by rfl) hE5 _ A who.length cp who (by rfl) rfl hrd5 (by unfold maxLen; omega) (by omega) hsz5 ?_; intro v5 w5 O5 hg5; rw [Nat.zero_add, List.nil_append, cellsOf_one (fun _ => rfl)] at O5; obtain ⟨A5, c5, rfl⟩ := own_slice O5; have hT5 : Turned (fun k => wc.heap.size ≤ k) wc w5 := (((Turned.refl _ wc).drew).alloc _).grown hg5 (fun k h hk => own_base hE5 h); have B5 : Blk w5 r 72 _ := hB6.turned hT5 (by simp; omega); have b5 : w5.cell? ⟨r, 0, none⟩ = some (.slice A2 I2.length c2) := B5.cell 0; have hs5 := hT5.size; have hlt5 := B5.lt; have O65 := own_turned hO6 hT5 (fun g hg h => by have := own_lt hO6 hg; omega)) | (refine step_append_lies _ (by rfl) (.tmp 49) (.tmp 55) 70 (by rfl) base 74 i0 _ 3 40 Try.underlying70 hi0 hz0 hz1 hz2 rfl (by omega) (.slice A2 I2.length c2) I2.length _ (by rfl) (O65.alloc _) ⟨w5.heap.size, 0, none⟩ 1 1 [.int .u16 c, .slice A5 who.length c5, .int .i64 (-1)] (by rfl) (by rfl) (World.news_of_block (cs := #[.int .u16 c, .slice A5 who.length c5, .int .i64 (-1)]) (t := 74) (fr := (0, 0)) (heap_alloc_new w5 _)) (by simp [Value.oneCell']) (by omega) (by unfold maxLen; omega) (by omega) (by simp; omega) (w5.heap.size + 1) (by simp) ?_; intro gg cap w7 O7 hg7 hat hlt7; have hT57 : Turned (fun k => (Value.slice A2 I2.length c2).ownBlock = some k) w5 w7 := ((Turned.refl _ w5).alloc _).grown hg7 (fun k h _ => h); have B7 : Blk w7 r 72 _ := B5.turned hT57 (own_blk_ne hO6 hB6 (by decide)); have e0 : w7.cell? ⟨r, 0, none⟩ = some (.slice A2 I2.length c2) := B7.cell 0; have e1 := B7.frozen 0))
    all_goals
      have hW5 := own_weaken O5 (show base ≤ wc.heap.size by omega)
      have hbig : ∀ g, (Value.slice A5 who.length c5).ownBlock = some g → wc.heap.size ≤ g := fun g hg => own_base O5 hg
      have hR5 := hR6.newer hT5 (fun _ h => h)
      have Q5 := own_turned hQ6 hT5 (fun g hg h => by have := own_lt hQ6 hg; omega)
      obtain ⟨hF, hTF⟩ := RefT.pushed (y := ⟨c, A5, c5, who, -1⟩) hR5 B5 O65 Q5 hT57 O7 (pushed_at hat) hW5 HSET.out hc
      have hT65 : Turned (UFoot base w) w w5 := hT6.then_ hT5 (fun k hk h => by omega)
      have hTT : Turned (UFoot base w) w (w7.setCell ⟨r, 0, none⟩ (.slice (some ⟨gg, 0, none⟩) (I2.length + 1) cap)) := hT65.then_ hTF (fun k hk h => by
        refine UFoot.back hT65 ?_ hk
        rcases h with rfl | h
        · exact ⟨hge, _, _, B5, .inl rfl⟩
        · obtain ⟨g1, cs, g2⟩ := own_blk O65 h
          exact ⟨g1, _, cs, g2, .inr (.inl rfl)⟩)
      go_wp2_with fail
      go_ret2
      exact .inr ⟨HE.out, ⟨c, A5, c5, who, -1⟩, rfl, rfl, rfl, fun g hg => by have := hbig g hg; omega, rfl, by rw [← HI2.out]; exact hF, hTT⟩
end
end Go.Proofs.Ytnicfiochnkjbaa
