/- The document's cache: Put. -/
import Derived.Test.YtnicfiochnkjbaaR3
import Derived.Deep.RegionLaw
namespace Go.Proofs.Ytnicfiochnkjbaa
open Go.RowKit
theorem info_wordz : (Try.prog.info? 51).map (fun i => (i.zero, i.size, i.bytes)) = some (some (.string ⟨#[]⟩), 1, 16) := by kernel_rfl
theorem string_one : ∀ x : ByteArray, ∀ u ∈ (Value.string x).cells.toList, u.oneCell' = true := fun x u hu => by
  simp only [Value.cells, List.mem_cons, List.not_mem_nil, or_false] at hu
  rw [hu]; rfl
theorem pushed_at {A2 : Option Addr} {n c2 gg n' cap H : Nat} (hat : (Value.slice A2 n c2).ownBlock = some gg ∨ gg = H + 1) : ∀ g, (Value.slice (some ⟨gg, 0, none⟩) n' cap).ownBlock = some g → (Value.slice A2 n c2).ownBlock = some g ∨ H ≤ g := fun g hg => by
  have : gg = g := by simpa [Value.ownBlock] using hg
  subst this
  rcases hat with h | h
  · exact .inl h
  · exact .inr (by omega)
def PutPost18 (w : World) (base r : Nat) (room : Int) (I : List RItem) (E : Ent) (e : Ending) (w' : World) : Prop :=
  e = .returned (.int .i64 (putE E.q.who E.told)) ∧ ∃ I', RefIs w' base r room I' ∧ I'.map RItem.ent = putXE room (I.map RItem.ent) E ∧ Turned (RFoot base w) w w' ∧ ∀ x ∈ I', x ∈ I ∨ ∀ g, x.ownB = some g → w.heap.size ≤ g
set_option maxRecDepth 100000 in
set_option maxHeartbeats 4000000 in
theorem put18_any {w : World} {base r : Nat} {room : Int} {I : List RItem} (h : RefIs w base r room I) (hk : (I.map RItem.ent).Pairwise (fun a b => a.q ≠ b.q)) (hI : I.length ≤ 1000) (hroom : 1 ≤ room) (ob op ver turn a till : Int) (A : Option Addr) (c : Nat) (who : List ByteArray) (hl : who.length ≤ 1000) (hs : ∀ s ∈ who, s.size ≤ 1000000) (hr : ReadsT Value.string w w.heap.size 1 A who) :
    Calls Try.prog 21 #[.pointer (some ⟨r, 0, none⟩), .agg #[.int .i64 ob, .int .i64 op, .slice A who.length c, .int .i64 ver, .int .i64 turn], .int .i64 a, .int .i64 till] w (PutPost18 w base r room I ⟨⟨ob, op, who⟩, a, ver, turn, till⟩) := by
  obtain ⟨i0, hi0, hz0, hz1, hz2⟩ := info_parts info_item
  obtain ⟨j0, hj0, hy0, hy1, hy2⟩ := info_parts info_wordz
  have HK0 : Hid (Kept w (w.alloc (.cells #[.int .i64 ob, .int .i64 op, .slice A who.length c, .int .i64 ver, .int .i64 turn] 45))) := Lib.hid ((Turned.refl _ w).alloc _)
  have HP : Hid (Blk (w.alloc (.cells #[.int .i64 ob, .int .i64 op, .slice A who.length c, .int .i64 ver, .int .i64 turn] 45)) w.heap.size 45 #[.int .i64 ob, .int .i64 op, .slice A who.length c, .int .i64 ver, .int .i64 turn]) := Lib.hid (Blk.new w _ _)
  have p2 : (w.alloc (.cells #[.int .i64 ob, .int .i64 op, .slice A who.length c, .int .i64 ver, .int .i64 turn] 45)).cell? ⟨w.heap.size, 2, none⟩ = some (.slice A who.length c) := HP.out.cell 2
  have CM := rset_any A c who (w.alloc (.cells #[.int .i64 ob, .int .i64 op, .slice A who.length c, .int .i64 ver, .int .i64 turn] 45)) hl hs (hr.kept HK0.out)
  have HR := Lib.hid hr
  have HH := Lib.hid h
  have HRL := Lib.hid h.lt
  have hge := h.ge
  have HKY := Lib.hid hk
  clear hr hk hs h
  rcases hset : setR who with _ | _
  · rw [hset] at CM
    have DM := Lib.hid CM
    have HE : Hid (putE who a = 2) := by show putE who a = 2; unfold putE; rw [hset]; rfl
    clear CM hset
    go_enter Try.func21, Try.ntmps21
    go_wp2_with fail
    refine DM.out.mono ?_
    rintro e w2 ⟨rfl, hK2⟩
    go_wp2_with fail
    go_ret
    refine ⟨by show _ = Ending.returned (.int .i64 (putE who a)); rw [HE.out]; rfl, I, HH.out.kept (HK0.out.to hK2), ?_, (HK0.out.to hK2).mono (fun _ _ h => h.elim), fun x hx => .inl hx⟩
    unfold putXE
    rw [if_neg (by simp only; rw [HE.out]; decide)]
  · rw [hset] at CM
    have DM := Lib.hid CM
    clear CM
    by_cases ha : a = 0 ∨ a = 1 ∨ a = 2
    · have tok : True := trivial
      clear tok
      have HE : Hid (putE who a = 0) := by show putE who a = 0; unfold putE; rw [hset, if_pos rfl, if_pos ha]
      have HX : Hid (putXE room (I.map RItem.ent) ⟨⟨ob, op, who⟩, a, ver, turn, till⟩ = trimX room (dropX ⟨ob, op, who⟩ (I.map RItem.ent)) ++ [⟨⟨ob, op, who⟩, a, ver, turn, till⟩]) := by
        show putXE _ _ _ = _
        unfold putXE putX
        rw [if_pos HE.out]
      obtain ⟨v00, hB00, hO00⟩ := HH.out.row
      obtain ⟨A00, c00, rfl⟩ := own_slice hO00
      go_enter Try.func21, Try.ntmps21
      go_wp2_with fail
      refine DM.out.mono ?_
      rintro e w2 ⟨rfl, hK2⟩
      clear DM p2 hO00
      generalize w.alloc (.cells #[.int .i64 ob, .int .i64 op, .slice A who.length c, .int .i64 ver, .int .i64 turn] 45) = w1 at HK0 HP hK2
      obtain ⟨gp, hgp⟩ : ∃ gp, gp = w.heap.size := ⟨_, rfl⟩
      rw [← hgp] at HP
      rw [← hgp]
      have HGP := Lib.hid hgp
      clear hgp
      go_upto_region 3 with (fail)
      go_cut [23] (fun s23 wx => s23 = .bool false ∧ Kept w1 wx)
      case first =>
        rcases ha with rfl | rfl | rfl
        all_goals
          go_wp2_with fail
          go_meet
          exact ⟨rfl, hK2⟩
      case rest =>
        obtain ⟨rfl, hKc⟩ := hcut
        clear hK2 ha
        have hKw := HK0.out.to hKc
        have hRc := HH.out.kept hKw
        have hPc := HP.out.turned hKc (fun h => h)
        have CF := find18_any hRc (by omega) ob op ver turn A c who (by omega) (HR.out.kept hKw)
        have y0 : wc.cell? ⟨gp, 0, none⟩ = some (.int .i64 ob) := hPc.cell 0
        have y1 : wc.cell? ⟨gp, 1, none⟩ = some (.int .i64 op) := hPc.cell 1
        have y2 : wc.cell? ⟨gp, 2, none⟩ = some (.slice A who.length c) := hPc.cell 2
        have y3 : wc.cell? ⟨gp, 3, none⟩ = some (.int .i64 ver) := hPc.cell 3
        have y4 : wc.cell? ⟨gp, 4, none⟩ = some (.int .i64 turn) := hPc.cell 4
        clear hKw
        rcases hpl : placeR ⟨ob, op, who⟩ I with _ | i
        · rw [hpl] at CF
          simp only [placeI] at CF
          have DF := Lib.hid CF
          obtain ⟨I1, hII⟩ : ∃ I1, I1 = I := ⟨_, rfl⟩
          have HM1 : Hid (I1.map RItem.ent = dropX ⟨ob, op, who⟩ (I.map RItem.ent)) := by rw [hII]; exact Lib.hid (drop_none_map hpl).symm
          have HS1 : Hid (∀ x ∈ I1, x ∈ I) := by rw [hII]; exact Lib.hid (fun _ h => h)
          have HII := Lib.hid hII
          clear CF hpl hII
          go_wp2_with fail
          refine DF.out.mono ?_
          rintro e W1 ⟨rfl, hK3⟩
          have hR1 := hRc.kept hK3
          have hP1 := hPc.turned hK3 (fun h => h)
          have hT1 : Turned (fun j => j = r) w1 W1 := (hKc.to hK3).mono (fun _ _ h => h.elim)
          have hI1 := hI
          rw [← HII.out] at hI1 hR1
          clear DF hRc hPc hK3 hKc y0 y1 y2 y3 y4
          go_wp2_with fail
          obtain ⟨v1, hB1, hO1⟩ := hR1.row
          obtain ⟨A1, c1, rfl⟩ := own_slice hO1
          by_cases hfull : room ≤ (I1.length : Int)
          · have df : decide (room ≤ (I1.length : Int)) = true := by simpa using hfull
            have HM2 : Hid ((I1.eraseIdx 0).map RItem.ent = trimX room (dropX ⟨ob, op, who⟩ (I.map RItem.ent))) := by
              show (I1.eraseIdx 0).map RItem.ent = _
              rw [← HM1.out]
              unfold trimX
              rw [List.length_map, if_pos hfull]
              cases I1 <;> rfl
            have HS2 : Hid (∀ x ∈ I1.eraseIdx 0, x ∈ I) := Lib.hid (fun x h => HS1.out x (List.mem_of_mem_eraseIdx h))
            have hpos : 0 < I1.length := by omega
            have hI2 : (I1.eraseIdx 0).length ≤ 1000 := by rw [List.length_eraseIdx_of_lt hpos]; omega
            clear hfull HM1 HS1
            refine wp_region_held_drew (S := fun W => W.cell? ⟨r, 0, none⟩ = some (.slice A1 I1.length c1) ∧ W.cell? ⟨r, 1, none⟩ = some (.int .i64 room)) (by kernel_rfl) ⟨hB1.cell 0, hB1.cell 1⟩ (fun hHeld => ?_)
            refine held_take 0 32 (v := ?_) ⟨_, rfl, rfl, by rfl, ?_⟩ (by kernel_rfl) (by kernel_rfl) (by kernel_rfl) (fun _ _ _ h => h) hHeld ?_
            rotate_left
            · (intro w hSw; (try dsimp only at hSw); go_simp; try with_reducible rfl)
            simp only [Act.put, List.setIfInBounds_toArray, List.set_cons_zero, List.set_cons_succ]
            refine held_take 1 33 (v := ?_) ⟨_, rfl, rfl, by rfl, ?_⟩ (by kernel_rfl) (by kernel_rfl) (by kernel_rfl) (fun _ _ _ h => h) hHeld ?_
            rotate_left
            · (intro w hSw; (try dsimp only at hSw); go_simp; try with_reducible rfl)
            simp only [Act.put, List.setIfInBounds_toArray, List.set_cons_zero, List.set_cons_succ]
            refine held_take 2 34 (v := ?_) ⟨_, rfl, rfl, by rfl, ?_⟩ (by kernel_rfl) (by kernel_rfl) (by kernel_rfl) (fun _ _ _ h => h) hHeld ?_
            rotate_left
            · (intro w hSw; (try dsimp only at hSw); go_simp; try with_reducible rfl)
            simp only [Act.put, List.setIfInBounds_toArray, List.set_cons_zero, List.set_cons_succ]
            refine held_take 3 35 (v := ?_) ⟨_, rfl, rfl, by rfl, ?_⟩ (by kernel_rfl) (by kernel_rfl) (by kernel_rfl) (fun _ _ _ h => h) hHeld ?_
            rotate_left
            · (intro w hSw; (try dsimp only at hSw); go_simp; try with_reducible rfl)
            simp only [Act.put, List.setIfInBounds_toArray, List.set_cons_zero, List.set_cons_succ]
            refine held_take 4 36 (v := ?_) ⟨_, rfl, rfl, by rfl, ?_⟩ (by kernel_rfl) (by kernel_rfl) (by kernel_rfl) (fun _ _ _ h => h) hHeld ?_
            rotate_left
            · (intro w hSw; (try dsimp only at hSw); go_simp; try with_reducible rfl)
            simp only [Act.put, List.setIfInBounds_toArray, List.set_cons_zero, List.set_cons_succ]
            refine held_take 5 37 (v := ?_) ⟨_, rfl, rfl, by rfl, ?_⟩ (by kernel_rfl) (by kernel_rfl) (by kernel_rfl) (fun _ _ _ h => h) hHeld ?_
            rotate_left
            · (intro w hSw; (try dsimp only at hSw); go_simp; try with_reducible rfl)
            simp only [Act.put, List.setIfInBounds_toArray, List.set_cons_zero, List.set_cons_succ]
            refine held_take 6 38 (v := ?_) ⟨_, rfl, rfl, by rfl, ?_⟩ (by kernel_rfl) (by kernel_rfl) (by kernel_rfl) (fun _ _ _ h => h) hHeld ?_
            rotate_left
            · (intro w hSw; (try dsimp only at hSw); go_simp; try with_reducible rfl)
            simp only [Act.put, List.setIfInBounds_toArray, List.set_cons_zero, List.set_cons_succ]
            refine held_take 7 39 (v := ?_) ⟨_, rfl, rfl, by rfl, ?_⟩ (by kernel_rfl) (by kernel_rfl) (by kernel_rfl) (fun _ _ _ h => h) hHeld ?_
            rotate_left
            · (intro w hSw; (try dsimp only at hSw); go_simp; try with_reducible rfl)
            simp only [Act.put, List.setIfInBounds_toArray, List.set_cons_zero, List.set_cons_succ]
            refine held_take 8 40 (v := ?_) ⟨_, rfl, rfl, by rfl, ?_⟩ (by kernel_rfl) (by kernel_rfl) (by kernel_rfl) (fun _ _ _ h => h) hHeld ?_
            rotate_left
            · (intro w hSw; (try dsimp only at hSw); go_simp; try with_reducible rfl)
            simp only [Act.put, List.setIfInBounds_toArray, List.set_cons_zero, List.set_cons_succ]
            refine held_take 9 41 (v := ?_) ⟨_, rfl, rfl, by rfl, ?_⟩ (by kernel_rfl) (by kernel_rfl) (by kernel_rfl) (fun _ _ _ h => h) hHeld ?_
            rotate_left
            · (intro w hSw; (try dsimp only at hSw); go_simp; try with_reducible rfl)
            simp only [Act.put, List.setIfInBounds_toArray, List.set_cons_zero, List.set_cons_succ]
            refine wpAnyH_done (by kernel_rfl) ?_ _
            have hRd := hR1.kept ((Turned.refl _ W1).drew)
            have hPd : Blk W1.drew gp 45 #[.int .i64 ob, .int .i64 op, .slice A who.length c, .int .i64 ver, .int .i64 turn] := hP1
            have hTd := hT1.drew
            clear hR1 hP1 hT1 hB1 hO1
            go_wp2_with fail
            refine (hRd.without0 hpos (by omega)).mono ?_
            rintro e W2 ⟨rfl, hR2, hT4⟩
            have hgr : gp ≠ r := by have := HGP.out; have := HRL.out; omega
            have hP2 := hPd.turned hT4 hgr
            have hT2 : Turned (fun j => j = r) w1 W2 := hTd.then_ hT4 (fun _ _ h => h)
            clear hRd hPd hTd hT4 df
            generalize I1.eraseIdx 0 = I2 at hR2 HM2 HS2 hI2
            obtain ⟨v2, hB2, hO2⟩ := hR2.row
            obtain ⟨A2, c2, rfl⟩ := own_slice hO2
            have hsz2 : w.heap.size ≤ W2.heap.size := by have := HK0.out.size; have := hT2.size; omega
            have hE := own_empty W2 W2.heap.size 51 1 (Nat.le_refl _)
            have hP0 := hP2.turned (S := fun _ => False) ((Turned.refl _ W2).alloc (.cells #[] 51)) (fun h => h)
            have p2 : (W2.alloc (.cells #[] 51)).cell? ⟨gp, 2, none⟩ = some (.slice A who.length c) := hP0.cell 2
            have hT02 : Turned (fun j => j = r) w W2 := (HK0.out.mono (fun _ _ h => h.elim)).then_ hT2 (fun _ _ h => h)
            have hrd : ReadsT Value.string (W2.alloc (.cells #[] 51)) w.heap.size 1 A who := HR.out.past (hT02.alloc _) hB00
            have hsz3 : W2.heap.size ≤ (W2.alloc (.cells #[] 51)).heap.size := by simp
            clear hP0
            go_upto_region 11 with (at_builtin; refine wpList_append_reads (V := Value.string) rfl (.tmp 44) (.tmp 46) 23 rfl W2.heap.size 51 j0 _ 1 16 Try.underlying23 hj0 hy0 hy1 hy2 rfl (by omega) (fun _ => rfl) string_one _ _ _ rfl hE _ A _ c who rfl rfl hrd (by unfold maxLen; omega) (by omega) hsz3 ?_; intro v5 w5 O5 hg5; rw [Nat.zero_add, List.nil_append, cellsOf_one (fun _ => rfl)] at O5; obtain ⟨A5, c5, rfl⟩ := own_slice O5; have hT5 : Turned (fun k => W2.heap.size ≤ k) W2 w5 := ((Turned.refl _ W2).alloc _).grown hg5 (fun k h hk => own_base hE h); have hgp2 := hP2.lt; have hP5 := hP2.turned hT5 (by simp; omega); have p5 := hP5.cell 2; have pf := hP5.frozen 2; clear hg5)
            have hB5 := hB2.turned hT5 (by have := hB2.lt; simp; omega)
            have hO5 := own_turned hO2 hT5 (fun g hg => by have := own_lt hO2 hg; simp; omega)
            have hR5 := hR2.beside hT5 (fun k t cs _ hb _ => by have := hb.lt; simp; omega) (fun x hx g cs _ _ hb => by have := hb.lt; simp; omega)
            have hng : gp ≠ r := by have := HGP.out; have := HRL.out; omega
            have hN6 := hP5.set_ 2 (.slice A5 who.length c5)
            have hT6 : Turned (fun k => k = gp) w5 (w5.setCell ⟨gp, 2, none⟩ (.slice A5 who.length c5)) := (Turned.refl (fun k => k = gp) w5).setCell (p := ⟨gp, 2, none⟩) (fun _ => rfl) _
            have hB6 := hB5.turned hT6 (Ne.symm hng)
            have hO6 := own_turned hO5 hT6 (fun g hg e => own_blk_ne hO5 hP5 (by decide) (by rw [hg, e]))
            have hW6 := own_turned O5 hT6 (fun g hg e => own_blk_ne O5 hP5 (by decide) (by rw [hg, e]))
            have hR6 := hR5.beside hT6 (fun k t cs _ hb ht e => by subst e; rcases ht with rfl | rfl <;> exact absurd rfl (Blk.ne_ hb hP5 (by decide))) (fun x hx g cs hg _ hb e => by subst e; exact absurd rfl (Blk.ne_ hb hP5 (by decide)))
            have hT26 : Turned (fun k => W2.heap.size ≤ k ∨ k = gp) W2 (w5.setCell ⟨gp, 2, none⟩ (.slice A5 who.length c5)) := (hT5.mono (fun _ _ h => .inl h)).then_ hT6 (fun _ _ h => .inr h)
            have hbig := fun g (hg : (Value.slice A5 who.length c5).ownBlock = some g) => own_base O5 hg
            clear hP5 hT5 hT6 hB5 hO5 O5 hR5 p5 pf hE hrd hsz3 p2 hP2 hB2 hO2
            generalize w5.setCell ⟨gp, 2, none⟩ (.slice A5 who.length c5) = w6 at hN6 hB6 hO6 hW6 hR6 hT26 ⊢
            have q0 : w6.cell? ⟨gp, 0, none⟩ = some (.int .i64 ob) := hN6.cell 0
            have q1 : w6.cell? ⟨gp, 1, none⟩ = some (.int .i64 op) := hN6.cell 1
            have q2 : w6.cell? ⟨gp, 2, none⟩ = some (.slice A5 who.length c5) := hN6.cell 2
            have q3 : w6.cell? ⟨gp, 3, none⟩ = some (.int .i64 ver) := hN6.cell 3
            have q4 : w6.cell? ⟨gp, 4, none⟩ = some (.int .i64 turn) := hN6.cell 4
            have b0 : w6.cell? ⟨r, 0, none⟩ = some (.slice A2 I2.length c2) := hB6.cell 0
            have bf := hB6.frozen 0
            have hr6 := hB6.lt
            have hg6 := hN6.lt
            go_region_law (refine step_append_lies _ (by rfl) _ _ _ (by rfl) base 104 i0 _ 7 72 Try.underlying48 hi0 hz0 hz1 hz2 rfl (by omega) (.slice A2 I2.length c2) I2.length _ (by rfl) ((hO6.alloc _).drew) ⟨w6.heap.size, 0, none⟩ 1 1 [.int .i64 ob, .int .i64 op, .slice A5 who.length c5, .int .i64 ver, .int .i64 turn, .int .i64 a, .int .i64 till] (by rfl) (by rfl) (World.news_of_block (cs := #[.int .i64 ob, .int .i64 op, .slice A5 who.length c5, .int .i64 ver, .int .i64 turn, .int .i64 a, .int .i64 till]) (t := 104) (fr := (0, 0)) (heap_alloc_new w6 _)) (by simp [Value.oneCell']) (by omega) (by unfold maxLen; omega) (by omega) (by simp; omega) (w6.heap.size + 1) (by simp) ?_; intro gg cap w7 O7 hg7 hat hlt7; have B7 : Blk w7 r 50 _ := (hB6.alloc _).drew.grown hg7 (Ne.symm (own_blk_ne hO6 hB6 (by decide))); have e0 : w7.cell? ⟨r, 0, none⟩ = some (.slice A2 I2.length c2) := B7.cell 0; have e1 := B7.frozen 0)
            all_goals
              obtain ⟨hF, hTF⟩ := RefIs.pushed (y := ⟨⟨ob, op, who⟩, A5, c5, a, ver, turn, till⟩) hR6 hB6 hO6 hg7 O7 (pushed_at hat) (own_weaken hW6 (by have := HRL.out; omega)) hset
              have hT06 : Turned (fun j => j = r) w w6 := hT02.then_ hT26 (fun i hi h => by have := HGP.out; omega)
              have hTT : Turned (RFoot base w) w (w7.setCell ⟨r, 0, none⟩ (.slice (some ⟨gg, 0, none⟩) (I2.length + 1) cap)) := (hT06.mono (S' := RFoot base w) (fun i hi h => RFoot.of_row hT06 hge hB00 hO6 hB6 hi (.inl h))).then_ hTF (fun i hi h => RFoot.of_row hT06 hge hB00 hO6 hB6 hi h)
              go_wp2_with fail
              go_ret
              refine ⟨by show _ = Ending.returned (.int .i64 (putE who a)); rw [HE.out]; rfl, _, hF, by rw [List.map_append, HM2.out, HX.out]; rfl, hTT, fun x hx => ?_⟩
              rcases List.mem_append.1 hx with hx | hx
              · exact .inl (HS2.out x hx)
              · rw [List.mem_singleton.1 hx]
                exact .inr (fun g hg => by have := hbig g hg; omega)
          · have df : decide (room ≤ (I1.length : Int)) = false := by simpa using hfull
            have HM2 : Hid (I1.map RItem.ent = trimX room (dropX ⟨ob, op, who⟩ (I.map RItem.ent))) := by
              show I1.map RItem.ent = _
              rw [← HM1.out]
              unfold trimX
              rw [List.length_map, if_neg hfull]
            have HS2 := HS1
            have hI2 := hI1
            clear hfull HM1 HS1 hI1
            refine wp_region_held_drew (S := fun W => W.cell? ⟨r, 0, none⟩ = some (.slice A1 I1.length c1) ∧ W.cell? ⟨r, 1, none⟩ = some (.int .i64 room)) (by kernel_rfl) ⟨hB1.cell 0, hB1.cell 1⟩ (fun hHeld => ?_)
            refine held_take 0 32 (v := ?_) ⟨_, rfl, rfl, by rfl, ?_⟩ (by kernel_rfl) (by kernel_rfl) (by kernel_rfl) (fun _ _ _ h => h) hHeld ?_
            rotate_left
            · (intro w hSw; (try dsimp only at hSw); go_simp; try with_reducible rfl)
            simp only [Act.put, List.setIfInBounds_toArray, List.set_cons_zero, List.set_cons_succ]
            refine held_take 1 33 (v := ?_) ⟨_, rfl, rfl, by rfl, ?_⟩ (by kernel_rfl) (by kernel_rfl) (by kernel_rfl) (fun _ _ _ h => h) hHeld ?_
            rotate_left
            · (intro w hSw; (try dsimp only at hSw); go_simp; try with_reducible rfl)
            simp only [Act.put, List.setIfInBounds_toArray, List.set_cons_zero, List.set_cons_succ]
            refine held_take 2 34 (v := ?_) ⟨_, rfl, rfl, by rfl, ?_⟩ (by kernel_rfl) (by kernel_rfl) (by kernel_rfl) (fun _ _ _ h => h) hHeld ?_
            rotate_left
            · (intro w hSw; (try dsimp only at hSw); go_simp; try with_reducible rfl)
            simp only [Act.put, List.setIfInBounds_toArray, List.set_cons_zero, List.set_cons_succ]
            refine held_take 3 35 (v := ?_) ⟨_, rfl, rfl, by rfl, ?_⟩ (by kernel_rfl) (by kernel_rfl) (by kernel_rfl) (fun _ _ _ h => h) hHeld ?_
            rotate_left
            · (intro w hSw; (try dsimp only at hSw); go_simp; try with_reducible rfl)
            simp only [Act.put, List.setIfInBounds_toArray, List.set_cons_zero, List.set_cons_succ]
            refine held_take 4 36 (v := ?_) ⟨_, rfl, rfl, by rfl, ?_⟩ (by kernel_rfl) (by kernel_rfl) (by kernel_rfl) (fun _ _ _ h => h) hHeld ?_
            rotate_left
            · (intro w hSw; (try dsimp only at hSw); go_simp; try with_reducible rfl)
            simp only [Act.put, List.setIfInBounds_toArray, List.set_cons_zero, List.set_cons_succ]
            refine held_take 5 37 (v := ?_) ⟨_, rfl, rfl, by rfl, ?_⟩ (by kernel_rfl) (by kernel_rfl) (by kernel_rfl) (fun _ _ _ h => h) hHeld ?_
            rotate_left
            · (intro w hSw; (try dsimp only at hSw); go_simp; try with_reducible rfl)
            simp only [Act.put, List.setIfInBounds_toArray, List.set_cons_zero, List.set_cons_succ]
            refine held_take 6 38 (v := ?_) ⟨_, rfl, rfl, by rfl, ?_⟩ (by kernel_rfl) (by kernel_rfl) (by kernel_rfl) (fun _ _ _ h => h) hHeld ?_
            rotate_left
            · (intro w hSw; (try dsimp only at hSw); go_simp; try with_reducible rfl)
            simp only [Act.put, List.setIfInBounds_toArray, List.set_cons_zero, List.set_cons_succ]
            refine held_take 7 39 (v := ?_) ⟨_, rfl, rfl, by rfl, ?_⟩ (by kernel_rfl) (by kernel_rfl) (by kernel_rfl) (fun _ _ _ h => h) hHeld ?_
            rotate_left
            · (intro w hSw; (try dsimp only at hSw); go_simp; try with_reducible rfl)
            simp only [Act.put, List.setIfInBounds_toArray, List.set_cons_zero, List.set_cons_succ]
            refine held_take 8 40 (v := ?_) ⟨_, rfl, rfl, by rfl, ?_⟩ (by kernel_rfl) (by kernel_rfl) (by kernel_rfl) (fun _ _ _ h => h) hHeld ?_
            rotate_left
            · (intro w hSw; (try dsimp only at hSw); go_simp; try with_reducible rfl)
            simp only [Act.put, List.setIfInBounds_toArray, List.set_cons_zero, List.set_cons_succ]
            refine held_take 9 41 (v := ?_) ⟨_, rfl, rfl, by rfl, ?_⟩ (by kernel_rfl) (by kernel_rfl) (by kernel_rfl) (fun _ _ _ h => h) hHeld ?_
            rotate_left
            · (intro w hSw; (try dsimp only at hSw); go_simp; try with_reducible rfl)
            simp only [Act.put, List.setIfInBounds_toArray, List.set_cons_zero, List.set_cons_succ]
            refine wpAnyH_done (by kernel_rfl) ?_ _
            have hR2 := hR1.kept ((Turned.refl _ W1).drew)
            have hP2 : Blk W1.drew gp 45 #[.int .i64 ob, .int .i64 op, .slice A who.length c, .int .i64 ver, .int .i64 turn] := hP1
            have hT2 := hT1.drew
            clear hR1 hP1 hT1 hB1 hO1 df
            generalize W1.drew = W2 at hR2 hP2 hT2 ⊢
            generalize hII2 : I1 = I2 at hR2 HM2 HS2 hI2
            have HII2 := Lib.hid hII2
            clear hII2
            obtain ⟨v2, hB2, hO2⟩ := hR2.row
            obtain ⟨A2, c2, rfl⟩ := own_slice hO2
            have hsz2 : w.heap.size ≤ W2.heap.size := by have := HK0.out.size; have := hT2.size; omega
            have hE := own_empty W2 W2.heap.size 51 1 (Nat.le_refl _)
            have hP0 := hP2.turned (S := fun _ => False) ((Turned.refl _ W2).alloc (.cells #[] 51)) (fun h => h)
            have p2 : (W2.alloc (.cells #[] 51)).cell? ⟨gp, 2, none⟩ = some (.slice A who.length c) := hP0.cell 2
            have hT02 : Turned (fun j => j = r) w W2 := (HK0.out.mono (fun _ _ h => h.elim)).then_ hT2 (fun _ _ h => h)
            have hrd : ReadsT Value.string (W2.alloc (.cells #[] 51)) w.heap.size 1 A who := HR.out.past (hT02.alloc _) hB00
            have hsz3 : W2.heap.size ≤ (W2.alloc (.cells #[] 51)).heap.size := by simp
            clear hP0
            go_upto_region 11 with (at_builtin; refine wpList_append_reads (V := Value.string) rfl (.tmp 44) (.tmp 46) 23 rfl W2.heap.size 51 j0 _ 1 16 Try.underlying23 hj0 hy0 hy1 hy2 rfl (by omega) (fun _ => rfl) string_one _ _ _ rfl hE _ A _ c who rfl rfl hrd (by unfold maxLen; omega) (by omega) hsz3 ?_; intro v5 w5 O5 hg5; rw [Nat.zero_add, List.nil_append, cellsOf_one (fun _ => rfl)] at O5; obtain ⟨A5, c5, rfl⟩ := own_slice O5; have hT5 : Turned (fun k => W2.heap.size ≤ k) W2 w5 := ((Turned.refl _ W2).alloc _).grown hg5 (fun k h hk => own_base hE h); have hgp2 := hP2.lt; have hP5 := hP2.turned hT5 (by simp; omega); have p5 := hP5.cell 2; have pf := hP5.frozen 2; clear hg5)
            have hB5 := hB2.turned hT5 (by have := hB2.lt; simp; omega)
            have hO5 := own_turned hO2 hT5 (fun g hg => by have := own_lt hO2 hg; simp; omega)
            have hR5 := hR2.beside hT5 (fun k t cs _ hb _ => by have := hb.lt; simp; omega) (fun x hx g cs _ _ hb => by have := hb.lt; simp; omega)
            have hng : gp ≠ r := by have := HGP.out; have := HRL.out; omega
            have hN6 := hP5.set_ 2 (.slice A5 who.length c5)
            have hT6 : Turned (fun k => k = gp) w5 (w5.setCell ⟨gp, 2, none⟩ (.slice A5 who.length c5)) := (Turned.refl (fun k => k = gp) w5).setCell (p := ⟨gp, 2, none⟩) (fun _ => rfl) _
            have hB6 := hB5.turned hT6 (Ne.symm hng)
            have hO6 := own_turned hO5 hT6 (fun g hg e => own_blk_ne hO5 hP5 (by decide) (by rw [hg, e]))
            have hW6 := own_turned O5 hT6 (fun g hg e => own_blk_ne O5 hP5 (by decide) (by rw [hg, e]))
            have hR6 := hR5.beside hT6 (fun k t cs _ hb ht e => by subst e; rcases ht with rfl | rfl <;> exact absurd rfl (Blk.ne_ hb hP5 (by decide))) (fun x hx g cs hg _ hb e => by subst e; exact absurd rfl (Blk.ne_ hb hP5 (by decide)))
            have hT26 : Turned (fun k => W2.heap.size ≤ k ∨ k = gp) W2 (w5.setCell ⟨gp, 2, none⟩ (.slice A5 who.length c5)) := (hT5.mono (fun _ _ h => .inl h)).then_ hT6 (fun _ _ h => .inr h)
            have hbig := fun g (hg : (Value.slice A5 who.length c5).ownBlock = some g) => own_base O5 hg
            clear hP5 hT5 hT6 hB5 hO5 O5 hR5 p5 pf hE hrd hsz3 p2 hP2 hB2 hO2
            generalize w5.setCell ⟨gp, 2, none⟩ (.slice A5 who.length c5) = w6 at hN6 hB6 hO6 hW6 hR6 hT26 ⊢
            have q0 : w6.cell? ⟨gp, 0, none⟩ = some (.int .i64 ob) := hN6.cell 0
            have q1 : w6.cell? ⟨gp, 1, none⟩ = some (.int .i64 op) := hN6.cell 1
            have q2 : w6.cell? ⟨gp, 2, none⟩ = some (.slice A5 who.length c5) := hN6.cell 2
            have q3 : w6.cell? ⟨gp, 3, none⟩ = some (.int .i64 ver) := hN6.cell 3
            have q4 : w6.cell? ⟨gp, 4, none⟩ = some (.int .i64 turn) := hN6.cell 4
            have b0 : w6.cell? ⟨r, 0, none⟩ = some (.slice A2 I2.length c2) := hB6.cell 0
            have bf := hB6.frozen 0
            have hr6 := hB6.lt
            have hg6 := hN6.lt
            go_region_law (refine step_append_lies _ (by rfl) _ _ _ (by rfl) base 104 i0 _ 7 72 Try.underlying48 hi0 hz0 hz1 hz2 rfl (by omega) (.slice A2 I2.length c2) I2.length _ (by rfl) ((hO6.alloc _).drew) ⟨w6.heap.size, 0, none⟩ 1 1 [.int .i64 ob, .int .i64 op, .slice A5 who.length c5, .int .i64 ver, .int .i64 turn, .int .i64 a, .int .i64 till] (by rfl) (by rfl) (World.news_of_block (cs := #[.int .i64 ob, .int .i64 op, .slice A5 who.length c5, .int .i64 ver, .int .i64 turn, .int .i64 a, .int .i64 till]) (t := 104) (fr := (0, 0)) (heap_alloc_new w6 _)) (by simp [Value.oneCell']) (by omega) (by unfold maxLen; omega) (by omega) (by simp; omega) (w6.heap.size + 1) (by simp) ?_; intro gg cap w7 O7 hg7 hat hlt7; have B7 : Blk w7 r 50 _ := (hB6.alloc _).drew.grown hg7 (Ne.symm (own_blk_ne hO6 hB6 (by decide))); have e0 : w7.cell? ⟨r, 0, none⟩ = some (.slice A2 I2.length c2) := B7.cell 0; have e1 := B7.frozen 0)
            all_goals
              obtain ⟨hF, hTF⟩ := RefIs.pushed (y := ⟨⟨ob, op, who⟩, A5, c5, a, ver, turn, till⟩) hR6 hB6 hO6 hg7 O7 (pushed_at hat) (own_weaken hW6 (by have := HRL.out; omega)) hset
              have hT06 : Turned (fun j => j = r) w w6 := hT02.then_ hT26 (fun i hi h => by have := HGP.out; omega)
              have hTT : Turned (RFoot base w) w (w7.setCell ⟨r, 0, none⟩ (.slice (some ⟨gg, 0, none⟩) (I2.length + 1) cap)) := (hT06.mono (S' := RFoot base w) (fun i hi h => RFoot.of_row hT06 hge hB00 hO6 hB6 hi (.inl h))).then_ hTF (fun i hi h => RFoot.of_row hT06 hge hB00 hO6 hB6 hi h)
              go_wp2_with fail
              go_ret
              refine ⟨by show _ = Ending.returned (.int .i64 (putE who a)); rw [HE.out]; rfl, _, hF, by rw [List.map_append, HM2.out, HX.out]; rfl, hTT, fun x hx => ?_⟩
              rcases List.mem_append.1 hx with hx | hx
              · exact .inl (HS2.out x hx)
              · rw [List.mem_singleton.1 hx]
                exact .inr (fun g hg => by have := hbig g hg; omega)
        · obtain ⟨x, hx1, hx2, hx3, hxl⟩ := place_in hpl
          rw [hpl] at CF
          simp only [placeI] at CF
          have DF := Lib.hid CF
          have HM1 : Hid ((I.eraseIdx i).map RItem.ent = dropX ⟨ob, op, who⟩ (I.map RItem.ent)) := Lib.hid (drop_some_map HKY.out hpl)
          have HS1 : Hid (∀ x ∈ I.eraseIdx i, x ∈ I) := Lib.hid (fun _ h => List.mem_of_mem_eraseIdx h)
          have i0' : (0 : Int) ≤ (i : Int) := by omega
          have hI1 : (I.eraseIdx i).length ≤ 1000 := by rw [List.length_eraseIdx_of_lt hxl]; omega
          clear CF hpl hx1 hx2 hx3
          go_wp2_with fail
          refine DF.out.mono ?_
          rintro e w3 ⟨rfl, hK3⟩
          have hR3 := hRc.kept hK3
          have hP3 := hPc.turned hK3 (fun h => h)
          clear DF y0 y1 y2 y3 y4
          go_wp2_with fail
          refine (hR3.without hxl (by omega)).mono ?_
          rintro e W1 ⟨rfl, hR1, hT4⟩
          have hgr : gp ≠ r := by have := HGP.out; have := HRL.out; omega
          have hP1 := hP3.turned hT4 hgr
          have hT1 : Turned (fun j => j = r) w1 W1 := ((hKc.to hK3).mono (fun _ _ h => h.elim)).then_ hT4 (fun _ _ h => h)
          clear hRc hPc hK3 hKc hR3 hP3 hT4 hxl
          generalize I.eraseIdx i = I1 at hR1 HM1 HS1 hI1
          go_wp2_with fail
          obtain ⟨v1, hB1, hO1⟩ := hR1.row
          obtain ⟨A1, c1, rfl⟩ := own_slice hO1
          by_cases hfull : room ≤ (I1.length : Int)
          · have df : decide (room ≤ (I1.length : Int)) = true := by simpa using hfull
            have HM2 : Hid ((I1.eraseIdx 0).map RItem.ent = trimX room (dropX ⟨ob, op, who⟩ (I.map RItem.ent))) := by
              show (I1.eraseIdx 0).map RItem.ent = _
              rw [← HM1.out]
              unfold trimX
              rw [List.length_map, if_pos hfull]
              cases I1 <;> rfl
            have HS2 : Hid (∀ x ∈ I1.eraseIdx 0, x ∈ I) := Lib.hid (fun x h => HS1.out x (List.mem_of_mem_eraseIdx h))
            have hpos : 0 < I1.length := by omega
            have hI2 : (I1.eraseIdx 0).length ≤ 1000 := by rw [List.length_eraseIdx_of_lt hpos]; omega
            clear hfull HM1 HS1
            refine wp_region_held_drew (S := fun W => W.cell? ⟨r, 0, none⟩ = some (.slice A1 I1.length c1) ∧ W.cell? ⟨r, 1, none⟩ = some (.int .i64 room)) (by kernel_rfl) ⟨hB1.cell 0, hB1.cell 1⟩ (fun hHeld => ?_)
            refine held_take 0 32 (v := ?_) ⟨_, rfl, rfl, by rfl, ?_⟩ (by kernel_rfl) (by kernel_rfl) (by kernel_rfl) (fun _ _ _ h => h) hHeld ?_
            rotate_left
            · (intro w hSw; (try dsimp only at hSw); go_simp; try with_reducible rfl)
            simp only [Act.put, List.setIfInBounds_toArray, List.set_cons_zero, List.set_cons_succ]
            refine held_take 1 33 (v := ?_) ⟨_, rfl, rfl, by rfl, ?_⟩ (by kernel_rfl) (by kernel_rfl) (by kernel_rfl) (fun _ _ _ h => h) hHeld ?_
            rotate_left
            · (intro w hSw; (try dsimp only at hSw); go_simp; try with_reducible rfl)
            simp only [Act.put, List.setIfInBounds_toArray, List.set_cons_zero, List.set_cons_succ]
            refine held_take 2 34 (v := ?_) ⟨_, rfl, rfl, by rfl, ?_⟩ (by kernel_rfl) (by kernel_rfl) (by kernel_rfl) (fun _ _ _ h => h) hHeld ?_
            rotate_left
            · (intro w hSw; (try dsimp only at hSw); go_simp; try with_reducible rfl)
            simp only [Act.put, List.setIfInBounds_toArray, List.set_cons_zero, List.set_cons_succ]
            refine held_take 3 35 (v := ?_) ⟨_, rfl, rfl, by rfl, ?_⟩ (by kernel_rfl) (by kernel_rfl) (by kernel_rfl) (fun _ _ _ h => h) hHeld ?_
            rotate_left
            · (intro w hSw; (try dsimp only at hSw); go_simp; try with_reducible rfl)
            simp only [Act.put, List.setIfInBounds_toArray, List.set_cons_zero, List.set_cons_succ]
            refine held_take 4 36 (v := ?_) ⟨_, rfl, rfl, by rfl, ?_⟩ (by kernel_rfl) (by kernel_rfl) (by kernel_rfl) (fun _ _ _ h => h) hHeld ?_
            rotate_left
            · (intro w hSw; (try dsimp only at hSw); go_simp; try with_reducible rfl)
            simp only [Act.put, List.setIfInBounds_toArray, List.set_cons_zero, List.set_cons_succ]
            refine held_take 5 37 (v := ?_) ⟨_, rfl, rfl, by rfl, ?_⟩ (by kernel_rfl) (by kernel_rfl) (by kernel_rfl) (fun _ _ _ h => h) hHeld ?_
            rotate_left
            · (intro w hSw; (try dsimp only at hSw); go_simp; try with_reducible rfl)
            simp only [Act.put, List.setIfInBounds_toArray, List.set_cons_zero, List.set_cons_succ]
            refine held_take 6 38 (v := ?_) ⟨_, rfl, rfl, by rfl, ?_⟩ (by kernel_rfl) (by kernel_rfl) (by kernel_rfl) (fun _ _ _ h => h) hHeld ?_
            rotate_left
            · (intro w hSw; (try dsimp only at hSw); go_simp; try with_reducible rfl)
            simp only [Act.put, List.setIfInBounds_toArray, List.set_cons_zero, List.set_cons_succ]
            refine held_take 7 39 (v := ?_) ⟨_, rfl, rfl, by rfl, ?_⟩ (by kernel_rfl) (by kernel_rfl) (by kernel_rfl) (fun _ _ _ h => h) hHeld ?_
            rotate_left
            · (intro w hSw; (try dsimp only at hSw); go_simp; try with_reducible rfl)
            simp only [Act.put, List.setIfInBounds_toArray, List.set_cons_zero, List.set_cons_succ]
            refine held_take 8 40 (v := ?_) ⟨_, rfl, rfl, by rfl, ?_⟩ (by kernel_rfl) (by kernel_rfl) (by kernel_rfl) (fun _ _ _ h => h) hHeld ?_
            rotate_left
            · (intro w hSw; (try dsimp only at hSw); go_simp; try with_reducible rfl)
            simp only [Act.put, List.setIfInBounds_toArray, List.set_cons_zero, List.set_cons_succ]
            refine held_take 9 41 (v := ?_) ⟨_, rfl, rfl, by rfl, ?_⟩ (by kernel_rfl) (by kernel_rfl) (by kernel_rfl) (fun _ _ _ h => h) hHeld ?_
            rotate_left
            · (intro w hSw; (try dsimp only at hSw); go_simp; try with_reducible rfl)
            simp only [Act.put, List.setIfInBounds_toArray, List.set_cons_zero, List.set_cons_succ]
            refine wpAnyH_done (by kernel_rfl) ?_ _
            have hRd := hR1.kept ((Turned.refl _ W1).drew)
            have hPd : Blk W1.drew gp 45 #[.int .i64 ob, .int .i64 op, .slice A who.length c, .int .i64 ver, .int .i64 turn] := hP1
            have hTd := hT1.drew
            clear hR1 hP1 hT1 hB1 hO1
            go_wp2_with fail
            refine (hRd.without0 hpos (by omega)).mono ?_
            rintro e W2 ⟨rfl, hR2, hT4⟩
            have hgr : gp ≠ r := by have := HGP.out; have := HRL.out; omega
            have hP2 := hPd.turned hT4 hgr
            have hT2 : Turned (fun j => j = r) w1 W2 := hTd.then_ hT4 (fun _ _ h => h)
            clear hRd hPd hTd hT4 df
            generalize I1.eraseIdx 0 = I2 at hR2 HM2 HS2 hI2
            obtain ⟨v2, hB2, hO2⟩ := hR2.row
            obtain ⟨A2, c2, rfl⟩ := own_slice hO2
            have hsz2 : w.heap.size ≤ W2.heap.size := by have := HK0.out.size; have := hT2.size; omega
            have hE := own_empty W2 W2.heap.size 51 1 (Nat.le_refl _)
            have hP0 := hP2.turned (S := fun _ => False) ((Turned.refl _ W2).alloc (.cells #[] 51)) (fun h => h)
            have p2 : (W2.alloc (.cells #[] 51)).cell? ⟨gp, 2, none⟩ = some (.slice A who.length c) := hP0.cell 2
            have hT02 : Turned (fun j => j = r) w W2 := (HK0.out.mono (fun _ _ h => h.elim)).then_ hT2 (fun _ _ h => h)
            have hrd : ReadsT Value.string (W2.alloc (.cells #[] 51)) w.heap.size 1 A who := HR.out.past (hT02.alloc _) hB00
            have hsz3 : W2.heap.size ≤ (W2.alloc (.cells #[] 51)).heap.size := by simp
            clear hP0
            go_upto_region 11 with (at_builtin; refine wpList_append_reads (V := Value.string) rfl (.tmp 44) (.tmp 46) 23 rfl W2.heap.size 51 j0 _ 1 16 Try.underlying23 hj0 hy0 hy1 hy2 rfl (by omega) (fun _ => rfl) string_one _ _ _ rfl hE _ A _ c who rfl rfl hrd (by unfold maxLen; omega) (by omega) hsz3 ?_; intro v5 w5 O5 hg5; rw [Nat.zero_add, List.nil_append, cellsOf_one (fun _ => rfl)] at O5; obtain ⟨A5, c5, rfl⟩ := own_slice O5; have hT5 : Turned (fun k => W2.heap.size ≤ k) W2 w5 := ((Turned.refl _ W2).alloc _).grown hg5 (fun k h hk => own_base hE h); have hgp2 := hP2.lt; have hP5 := hP2.turned hT5 (by simp; omega); have p5 := hP5.cell 2; have pf := hP5.frozen 2; clear hg5)
            have hB5 := hB2.turned hT5 (by have := hB2.lt; simp; omega)
            have hO5 := own_turned hO2 hT5 (fun g hg => by have := own_lt hO2 hg; simp; omega)
            have hR5 := hR2.beside hT5 (fun k t cs _ hb _ => by have := hb.lt; simp; omega) (fun x hx g cs _ _ hb => by have := hb.lt; simp; omega)
            have hng : gp ≠ r := by have := HGP.out; have := HRL.out; omega
            have hN6 := hP5.set_ 2 (.slice A5 who.length c5)
            have hT6 : Turned (fun k => k = gp) w5 (w5.setCell ⟨gp, 2, none⟩ (.slice A5 who.length c5)) := (Turned.refl (fun k => k = gp) w5).setCell (p := ⟨gp, 2, none⟩) (fun _ => rfl) _
            have hB6 := hB5.turned hT6 (Ne.symm hng)
            have hO6 := own_turned hO5 hT6 (fun g hg e => own_blk_ne hO5 hP5 (by decide) (by rw [hg, e]))
            have hW6 := own_turned O5 hT6 (fun g hg e => own_blk_ne O5 hP5 (by decide) (by rw [hg, e]))
            have hR6 := hR5.beside hT6 (fun k t cs _ hb ht e => by subst e; rcases ht with rfl | rfl <;> exact absurd rfl (Blk.ne_ hb hP5 (by decide))) (fun x hx g cs hg _ hb e => by subst e; exact absurd rfl (Blk.ne_ hb hP5 (by decide)))
            have hT26 : Turned (fun k => W2.heap.size ≤ k ∨ k = gp) W2 (w5.setCell ⟨gp, 2, none⟩ (.slice A5 who.length c5)) := (hT5.mono (fun _ _ h => .inl h)).then_ hT6 (fun _ _ h => .inr h)
            have hbig := fun g (hg : (Value.slice A5 who.length c5).ownBlock = some g) => own_base O5 hg
            clear hP5 hT5 hT6 hB5 hO5 O5 hR5 p5 pf hE hrd hsz3 p2 hP2 hB2 hO2
            generalize w5.setCell ⟨gp, 2, none⟩ (.slice A5 who.length c5) = w6 at hN6 hB6 hO6 hW6 hR6 hT26 ⊢
            have q0 : w6.cell? ⟨gp, 0, none⟩ = some (.int .i64 ob) := hN6.cell 0
            have q1 : w6.cell? ⟨gp, 1, none⟩ = some (.int .i64 op) := hN6.cell 1
            have q2 : w6.cell? ⟨gp, 2, none⟩ = some (.slice A5 who.length c5) := hN6.cell 2
            have q3 : w6.cell? ⟨gp, 3, none⟩ = some (.int .i64 ver) := hN6.cell 3
            have q4 : w6.cell? ⟨gp, 4, none⟩ = some (.int .i64 turn) := hN6.cell 4
            have b0 : w6.cell? ⟨r, 0, none⟩ = some (.slice A2 I2.length c2) := hB6.cell 0
            have bf := hB6.frozen 0
            have hr6 := hB6.lt
            have hg6 := hN6.lt
            go_region_law (refine step_append_lies _ (by rfl) _ _ _ (by rfl) base 104 i0 _ 7 72 Try.underlying48 hi0 hz0 hz1 hz2 rfl (by omega) (.slice A2 I2.length c2) I2.length _ (by rfl) ((hO6.alloc _).drew) ⟨w6.heap.size, 0, none⟩ 1 1 [.int .i64 ob, .int .i64 op, .slice A5 who.length c5, .int .i64 ver, .int .i64 turn, .int .i64 a, .int .i64 till] (by rfl) (by rfl) (World.news_of_block (cs := #[.int .i64 ob, .int .i64 op, .slice A5 who.length c5, .int .i64 ver, .int .i64 turn, .int .i64 a, .int .i64 till]) (t := 104) (fr := (0, 0)) (heap_alloc_new w6 _)) (by simp [Value.oneCell']) (by omega) (by unfold maxLen; omega) (by omega) (by simp; omega) (w6.heap.size + 1) (by simp) ?_; intro gg cap w7 O7 hg7 hat hlt7; have B7 : Blk w7 r 50 _ := (hB6.alloc _).drew.grown hg7 (Ne.symm (own_blk_ne hO6 hB6 (by decide))); have e0 : w7.cell? ⟨r, 0, none⟩ = some (.slice A2 I2.length c2) := B7.cell 0; have e1 := B7.frozen 0)
            all_goals
              obtain ⟨hF, hTF⟩ := RefIs.pushed (y := ⟨⟨ob, op, who⟩, A5, c5, a, ver, turn, till⟩) hR6 hB6 hO6 hg7 O7 (pushed_at hat) (own_weaken hW6 (by have := HRL.out; omega)) hset
              have hT06 : Turned (fun j => j = r) w w6 := hT02.then_ hT26 (fun i hi h => by have := HGP.out; omega)
              have hTT : Turned (RFoot base w) w (w7.setCell ⟨r, 0, none⟩ (.slice (some ⟨gg, 0, none⟩) (I2.length + 1) cap)) := (hT06.mono (S' := RFoot base w) (fun i hi h => RFoot.of_row hT06 hge hB00 hO6 hB6 hi (.inl h))).then_ hTF (fun i hi h => RFoot.of_row hT06 hge hB00 hO6 hB6 hi h)
              go_wp2_with fail
              go_ret
              refine ⟨by show _ = Ending.returned (.int .i64 (putE who a)); rw [HE.out]; rfl, _, hF, by rw [List.map_append, HM2.out, HX.out]; rfl, hTT, fun x hx => ?_⟩
              rcases List.mem_append.1 hx with hx | hx
              · exact .inl (HS2.out x hx)
              · rw [List.mem_singleton.1 hx]
                exact .inr (fun g hg => by have := hbig g hg; omega)
          · have df : decide (room ≤ (I1.length : Int)) = false := by simpa using hfull
            have HM2 : Hid (I1.map RItem.ent = trimX room (dropX ⟨ob, op, who⟩ (I.map RItem.ent))) := by
              show I1.map RItem.ent = _
              rw [← HM1.out]
              unfold trimX
              rw [List.length_map, if_neg hfull]
            have HS2 := HS1
            have hI2 := hI1
            clear hfull HM1 HS1 hI1
            refine wp_region_held_drew (S := fun W => W.cell? ⟨r, 0, none⟩ = some (.slice A1 I1.length c1) ∧ W.cell? ⟨r, 1, none⟩ = some (.int .i64 room)) (by kernel_rfl) ⟨hB1.cell 0, hB1.cell 1⟩ (fun hHeld => ?_)
            refine held_take 0 32 (v := ?_) ⟨_, rfl, rfl, by rfl, ?_⟩ (by kernel_rfl) (by kernel_rfl) (by kernel_rfl) (fun _ _ _ h => h) hHeld ?_
            rotate_left
            · (intro w hSw; (try dsimp only at hSw); go_simp; try with_reducible rfl)
            simp only [Act.put, List.setIfInBounds_toArray, List.set_cons_zero, List.set_cons_succ]
            refine held_take 1 33 (v := ?_) ⟨_, rfl, rfl, by rfl, ?_⟩ (by kernel_rfl) (by kernel_rfl) (by kernel_rfl) (fun _ _ _ h => h) hHeld ?_
            rotate_left
            · (intro w hSw; (try dsimp only at hSw); go_simp; try with_reducible rfl)
            simp only [Act.put, List.setIfInBounds_toArray, List.set_cons_zero, List.set_cons_succ]
            refine held_take 2 34 (v := ?_) ⟨_, rfl, rfl, by rfl, ?_⟩ (by kernel_rfl) (by kernel_rfl) (by kernel_rfl) (fun _ _ _ h => h) hHeld ?_
            rotate_left
            · (intro w hSw; (try dsimp only at hSw); go_simp; try with_reducible rfl)
            simp only [Act.put, List.setIfInBounds_toArray, List.set_cons_zero, List.set_cons_succ]
            refine held_take 3 35 (v := ?_) ⟨_, rfl, rfl, by rfl, ?_⟩ (by kernel_rfl) (by kernel_rfl) (by kernel_rfl) (fun _ _ _ h => h) hHeld ?_
            rotate_left
            · (intro w hSw; (try dsimp only at hSw); go_simp; try with_reducible rfl)
            simp only [Act.put, List.setIfInBounds_toArray, List.set_cons_zero, List.set_cons_succ]
            refine held_take 4 36 (v := ?_) ⟨_, rfl, rfl, by rfl, ?_⟩ (by kernel_rfl) (by kernel_rfl) (by kernel_rfl) (fun _ _ _ h => h) hHeld ?_
            rotate_left
            · (intro w hSw; (try dsimp only at hSw); go_simp; try with_reducible rfl)
            simp only [Act.put, List.setIfInBounds_toArray, List.set_cons_zero, List.set_cons_succ]
            refine held_take 5 37 (v := ?_) ⟨_, rfl, rfl, by rfl, ?_⟩ (by kernel_rfl) (by kernel_rfl) (by kernel_rfl) (fun _ _ _ h => h) hHeld ?_
            rotate_left
            · (intro w hSw; (try dsimp only at hSw); go_simp; try with_reducible rfl)
            simp only [Act.put, List.setIfInBounds_toArray, List.set_cons_zero, List.set_cons_succ]
            refine held_take 6 38 (v := ?_) ⟨_, rfl, rfl, by rfl, ?_⟩ (by kernel_rfl) (by kernel_rfl) (by kernel_rfl) (fun _ _ _ h => h) hHeld ?_
            rotate_left
            · (intro w hSw; (try dsimp only at hSw); go_simp; try with_reducible rfl)
            simp only [Act.put, List.setIfInBounds_toArray, List.set_cons_zero, List.set_cons_succ]
            refine held_take 7 39 (v := ?_) ⟨_, rfl, rfl, by rfl, ?_⟩ (by kernel_rfl) (by kernel_rfl) (by kernel_rfl) (fun _ _ _ h => h) hHeld ?_
            rotate_left
            · (intro w hSw; (try dsimp only at hSw); go_simp; try with_reducible rfl)
            simp only [Act.put, List.setIfInBounds_toArray, List.set_cons_zero, List.set_cons_succ]
            refine held_take 8 40 (v := ?_) ⟨_, rfl, rfl, by rfl, ?_⟩ (by kernel_rfl) (by kernel_rfl) (by kernel_rfl) (fun _ _ _ h => h) hHeld ?_
            rotate_left
            · (intro w hSw; (try dsimp only at hSw); go_simp; try with_reducible rfl)
            simp only [Act.put, List.setIfInBounds_toArray, List.set_cons_zero, List.set_cons_succ]
            refine held_take 9 41 (v := ?_) ⟨_, rfl, rfl, by rfl, ?_⟩ (by kernel_rfl) (by kernel_rfl) (by kernel_rfl) (fun _ _ _ h => h) hHeld ?_
            rotate_left
            · (intro w hSw; (try dsimp only at hSw); go_simp; try with_reducible rfl)
            simp only [Act.put, List.setIfInBounds_toArray, List.set_cons_zero, List.set_cons_succ]
            refine wpAnyH_done (by kernel_rfl) ?_ _
            have hR2 := hR1.kept ((Turned.refl _ W1).drew)
            have hP2 : Blk W1.drew gp 45 #[.int .i64 ob, .int .i64 op, .slice A who.length c, .int .i64 ver, .int .i64 turn] := hP1
            have hT2 := hT1.drew
            clear hR1 hP1 hT1 hB1 hO1 df
            generalize W1.drew = W2 at hR2 hP2 hT2 ⊢
            generalize hII2 : I1 = I2 at hR2 HM2 HS2 hI2
            have HII2 := Lib.hid hII2
            clear hII2
            obtain ⟨v2, hB2, hO2⟩ := hR2.row
            obtain ⟨A2, c2, rfl⟩ := own_slice hO2
            have hsz2 : w.heap.size ≤ W2.heap.size := by have := HK0.out.size; have := hT2.size; omega
            have hE := own_empty W2 W2.heap.size 51 1 (Nat.le_refl _)
            have hP0 := hP2.turned (S := fun _ => False) ((Turned.refl _ W2).alloc (.cells #[] 51)) (fun h => h)
            have p2 : (W2.alloc (.cells #[] 51)).cell? ⟨gp, 2, none⟩ = some (.slice A who.length c) := hP0.cell 2
            have hT02 : Turned (fun j => j = r) w W2 := (HK0.out.mono (fun _ _ h => h.elim)).then_ hT2 (fun _ _ h => h)
            have hrd : ReadsT Value.string (W2.alloc (.cells #[] 51)) w.heap.size 1 A who := HR.out.past (hT02.alloc _) hB00
            have hsz3 : W2.heap.size ≤ (W2.alloc (.cells #[] 51)).heap.size := by simp
            clear hP0
            go_upto_region 11 with (at_builtin; refine wpList_append_reads (V := Value.string) rfl (.tmp 44) (.tmp 46) 23 rfl W2.heap.size 51 j0 _ 1 16 Try.underlying23 hj0 hy0 hy1 hy2 rfl (by omega) (fun _ => rfl) string_one _ _ _ rfl hE _ A _ c who rfl rfl hrd (by unfold maxLen; omega) (by omega) hsz3 ?_; intro v5 w5 O5 hg5; rw [Nat.zero_add, List.nil_append, cellsOf_one (fun _ => rfl)] at O5; obtain ⟨A5, c5, rfl⟩ := own_slice O5; have hT5 : Turned (fun k => W2.heap.size ≤ k) W2 w5 := ((Turned.refl _ W2).alloc _).grown hg5 (fun k h hk => own_base hE h); have hgp2 := hP2.lt; have hP5 := hP2.turned hT5 (by simp; omega); have p5 := hP5.cell 2; have pf := hP5.frozen 2; clear hg5)
            have hB5 := hB2.turned hT5 (by have := hB2.lt; simp; omega)
            have hO5 := own_turned hO2 hT5 (fun g hg => by have := own_lt hO2 hg; simp; omega)
            have hR5 := hR2.beside hT5 (fun k t cs _ hb _ => by have := hb.lt; simp; omega) (fun x hx g cs _ _ hb => by have := hb.lt; simp; omega)
            have hng : gp ≠ r := by have := HGP.out; have := HRL.out; omega
            have hN6 := hP5.set_ 2 (.slice A5 who.length c5)
            have hT6 : Turned (fun k => k = gp) w5 (w5.setCell ⟨gp, 2, none⟩ (.slice A5 who.length c5)) := (Turned.refl (fun k => k = gp) w5).setCell (p := ⟨gp, 2, none⟩) (fun _ => rfl) _
            have hB6 := hB5.turned hT6 (Ne.symm hng)
            have hO6 := own_turned hO5 hT6 (fun g hg e => own_blk_ne hO5 hP5 (by decide) (by rw [hg, e]))
            have hW6 := own_turned O5 hT6 (fun g hg e => own_blk_ne O5 hP5 (by decide) (by rw [hg, e]))
            have hR6 := hR5.beside hT6 (fun k t cs _ hb ht e => by subst e; rcases ht with rfl | rfl <;> exact absurd rfl (Blk.ne_ hb hP5 (by decide))) (fun x hx g cs hg _ hb e => by subst e; exact absurd rfl (Blk.ne_ hb hP5 (by decide)))
            have hT26 : Turned (fun k => W2.heap.size ≤ k ∨ k = gp) W2 (w5.setCell ⟨gp, 2, none⟩ (.slice A5 who.length c5)) := (hT5.mono (fun _ _ h => .inl h)).then_ hT6 (fun _ _ h => .inr h)
            have hbig := fun g (hg : (Value.slice A5 who.length c5).ownBlock = some g) => own_base O5 hg
            clear hP5 hT5 hT6 hB5 hO5 O5 hR5 p5 pf hE hrd hsz3 p2 hP2 hB2 hO2
            generalize w5.setCell ⟨gp, 2, none⟩ (.slice A5 who.length c5) = w6 at hN6 hB6 hO6 hW6 hR6 hT26 ⊢
            have q0 : w6.cell? ⟨gp, 0, none⟩ = some (.int .i64 ob) := hN6.cell 0
            have q1 : w6.cell? ⟨gp, 1, none⟩ = some (.int .i64 op) := hN6.cell 1
            have q2 : w6.cell? ⟨gp, 2, none⟩ = some (.slice A5 who.length c5) := hN6.cell 2
            have q3 : w6.cell? ⟨gp, 3, none⟩ = some (.int .i64 ver) := hN6.cell 3
            have q4 : w6.cell? ⟨gp, 4, none⟩ = some (.int .i64 turn) := hN6.cell 4
            have b0 : w6.cell? ⟨r, 0, none⟩ = some (.slice A2 I2.length c2) := hB6.cell 0
            have bf := hB6.frozen 0
            have hr6 := hB6.lt
            have hg6 := hN6.lt
            go_region_law (refine step_append_lies _ (by rfl) _ _ _ (by rfl) base 104 i0 _ 7 72 Try.underlying48 hi0 hz0 hz1 hz2 rfl (by omega) (.slice A2 I2.length c2) I2.length _ (by rfl) ((hO6.alloc _).drew) ⟨w6.heap.size, 0, none⟩ 1 1 [.int .i64 ob, .int .i64 op, .slice A5 who.length c5, .int .i64 ver, .int .i64 turn, .int .i64 a, .int .i64 till] (by rfl) (by rfl) (World.news_of_block (cs := #[.int .i64 ob, .int .i64 op, .slice A5 who.length c5, .int .i64 ver, .int .i64 turn, .int .i64 a, .int .i64 till]) (t := 104) (fr := (0, 0)) (heap_alloc_new w6 _)) (by simp [Value.oneCell']) (by omega) (by unfold maxLen; omega) (by omega) (by simp; omega) (w6.heap.size + 1) (by simp) ?_; intro gg cap w7 O7 hg7 hat hlt7; have B7 : Blk w7 r 50 _ := (hB6.alloc _).drew.grown hg7 (Ne.symm (own_blk_ne hO6 hB6 (by decide))); have e0 : w7.cell? ⟨r, 0, none⟩ = some (.slice A2 I2.length c2) := B7.cell 0; have e1 := B7.frozen 0)
            all_goals
              obtain ⟨hF, hTF⟩ := RefIs.pushed (y := ⟨⟨ob, op, who⟩, A5, c5, a, ver, turn, till⟩) hR6 hB6 hO6 hg7 O7 (pushed_at hat) (own_weaken hW6 (by have := HRL.out; omega)) hset
              have hT06 : Turned (fun j => j = r) w w6 := hT02.then_ hT26 (fun i hi h => by have := HGP.out; omega)
              have hTT : Turned (RFoot base w) w (w7.setCell ⟨r, 0, none⟩ (.slice (some ⟨gg, 0, none⟩) (I2.length + 1) cap)) := (hT06.mono (S' := RFoot base w) (fun i hi h => RFoot.of_row hT06 hge hB00 hO6 hB6 hi (.inl h))).then_ hTF (fun i hi h => RFoot.of_row hT06 hge hB00 hO6 hB6 hi h)
              go_wp2_with fail
              go_ret
              refine ⟨by show _ = Ending.returned (.int .i64 (putE who a)); rw [HE.out]; rfl, _, hF, by rw [List.map_append, HM2.out, HX.out]; rfl, hTT, fun x hx => ?_⟩
              rcases List.mem_append.1 hx with hx | hx
              · exact .inl (HS2.out x hx)
              · rw [List.mem_singleton.1 hx]
                exact .inr (fun g hg => by have := hbig g hg; omega)
    · have HE : Hid (putE who a = 1) := by show putE who a = 1; unfold putE; rw [hset, if_pos rfl, if_neg ha]
      have a0 : (a != 0) = true := by rw [bne_iff_ne]; omega
      have a1 : (a != 1) = true := by rw [bne_iff_ne]; omega
      have a2 : (a != 2) = true := by rw [bne_iff_ne]; omega
      clear hset ha
      go_enter Try.func21, Try.ntmps21
      go_wp2_with fail
      refine DM.out.mono ?_
      rintro e w2 ⟨rfl, hK2⟩
      go_wp2_with fail
      go_ret
      refine ⟨by show _ = Ending.returned (.int .i64 (putE who a)); rw [HE.out]; rfl, I, HH.out.kept (HK0.out.to hK2), ?_, (HK0.out.to hK2).mono (fun _ _ h => h.elim), fun x hx => .inl hx⟩
      unfold putXE
      rw [if_neg (by simp only; rw [HE.out]; decide)]
end Go.Proofs.Ytnicfiochnkjbaa
