/- The channels' table: Open. -/
import Derived.Test.YtnicfiochnkjbaaT8
namespace Go.Proofs.Ytnicfiochnkjbaa
open Go.RowKit
def openEr (c : Int) (who : List ByteArray) (E : List TEnt) (G : List Int) : Int :=
  if c / 8192 ≠ 2 then 1 else if setR who = false then 2 else if (foundT c E).isSome then 11 else if goneB c G then 21 else 0
def outT (room : Int) (E : List TEnt) : Int := if room ≤ (E.length : Int) then (match E with | x :: _ => x.ch | [] => 0) else 0
def cutT (room : Int) (E : List TEnt) : List TEnt := if room ≤ (E.length : Int) then E.tail else E
def goneT (room : Int) (E : List TEnt) (G : List Int) : List Int := if room ≤ (E.length : Int) then G ++ [outT room E] else G
def OpenPost (w : World) (base t mb : Nat) (room c : Int) (who : List ByteArray) (E : List TEnt) (G : List Int) (e : Ending) (w' : World) : Prop :=
  (openEr c who E G ≠ 0 ∧ e = .returned (.tuple #[.int .u16 0, .int .i64 (openEr c who E G)]) ∧ TabIs w' base t mb room E G ∧ Kept w w') ∨
  (openEr c who E G = 0 ∧ ∃ y : TEnt, y.ch = c ∧ y.who = who ∧ y.last = -1 ∧ (∀ g, y.ownB = some g → w.heap.size ≤ g) ∧ e = .returned (.tuple #[.int .u16 (outT room E), .int .i64 0]) ∧ TabIs w' base t mb room (cutT room E ++ [y]) (goneT room E G) ∧ Turned (TFoot base mb w) w w')
section
variable {w w' W w3 : World} {base t mb : Nat} {room : Int} {E : List TEnt} {G : List Int} {c : Int} {who : List ByteArray}
theorem TFoot.back {k : Nat} (hT : Turned (TFoot base mb w) w W) (h : TFoot base mb W k) (hk : k < w.heap.size) : TFoot base mb w k := by
  by_cases hr : TFoot base mb w k
  · exact hr
  · rcases h with h | ⟨h1, ty, cs, h2, h3⟩
    · exact .inl h
    · refine .inr ⟨h1, ty, cs, ?_, h3⟩
      unfold Blk at h2 ⊢
      rw [← hT.block k hk hr]
      exact h2
theorem found_place (h : placeT c E = none) : foundT c E = none := find_noplace h
theorem found_some {i : Nat} (h : placeT c E = some i) : (foundT c E).isSome = true := by
  obtain ⟨x, h1, _⟩ := placeT_in h
  unfold foundT
  rw [find_place h h1]
  rfl
theorem notin_place (h : placeT c E = none) : ∀ x ∈ E, x.ch ≠ c := fun x hx e => by
  unfold placeT at h
  have := List.findIdx?_eq_none_iff.1 h x hx
  rw [e] at this
  simp at this
theorem dropE_notin (h : ∀ x ∈ E, x.ch ≠ c) : dropE c E = E := by
  have : placeT c E = none := by
    unfold placeT
    rw [List.findIdx?_eq_none_iff]
    intro x hx
    simpa using h x hx
  unfold dropE
  rw [this]
theorem dropE_head {x : TEnt} : dropE x.ch (x :: E) = E := by
  have : placeT x.ch (x :: E) = some 0 := by
    unfold placeT
    rw [List.findIdx?_cons]
    simp
  unfold dropE
  rw [this]
  rfl
set_option maxRecDepth 100000 in
set_option maxHeartbeats 4000000 in
theorem open_table (h : TabIs w base t mb room E G) (hE : E.length ≤ 1000) (hc : u16 c) (hroom : 1 ≤ room) (hd : ∀ x ∈ E, x.ch ∉ G) (A : Option Addr) (cp : Nat) (hl : who.length ≤ 1000) (hs : ∀ s ∈ who, s.size ≤ 1000000) (hr : ReadsT Value.string w w.heap.size 1 A who) (hrw : ∀ b o, 0 < who.length → A = some ⟨b, o, none⟩ → b < w.heap.size → ¬ TFoot base mb w b) :
    Calls Try.prog 50 #[.pointer (some ⟨t, 0, none⟩), .int .u16 c, .slice A who.length cp] w (OpenPost w base t mb room c who E G) := by
  have HH := Lib.hid h
  have HD := Lib.hid hd
  have HR := Lib.hid hr
  have HRW := Lib.hid hrw
  have hlt := h.lt
  have ht0 : c.tdiv 8192 = c / 8192 := Int.tdiv_eq_ediv_of_nonneg hc.1
  have hc0 := hc.1
  have hc1 := hc.2
  have CM := set_any A cp who w hl hs hr
  clear hd hr hs hrw
  by_cases hk : c / 8192 = 2
  · have k1 : (c / 8192 != 2) = false := by simp [hk]
    have HK2 := Lib.hid hk
    clear hk ht0
    rcases hset : setR who with _ | _
    · rw [hset] at CM
      have DM := Lib.hid CM
      have HER : Hid (openEr c who E G = 2) := by
        show openEr c who E G = 2
        unfold openEr
        rw [if_neg (by rw [HK2.out]; decide), if_pos hset]
      clear CM hset h
      go_enter Try.func50, Try.ntmps50
      go_wp2_with fail
      refine DM.out.mono ?_
      rintro e w2 ⟨rfl, n, rfl⟩
      clear DM
      go_wp2_with fail
      go_ret2
      exact .inl ⟨by rw [HER.out]; decide, by rw [HER.out]; rfl, HH.out.kept ((Turned.refl _ w).drewN n), (Turned.refl _ w).drewN n⟩
    · rw [hset] at CM
      have DM := Lib.hid CM
      have CF := fun n => findT_any (h.kept ((Turned.refl _ w).drewN n)) (by omega) c
      rcases hpl : placeT c E with _ | i
      · rw [hpl] at CF
        simp only [placeI] at CF
        have DF := Lib.hid CF
        have HFN := Lib.hid (found_place hpl)
        have HNI := Lib.hid (notin_place hpl)
        clear CM CF hpl
        rcases hg : goneB c G with _ | _
        · have HER : Hid (openEr c who E G = 0) := by
            show openEr c who E G = 0
            unfold openEr
            rw [if_neg (by rw [HK2.out]; decide), if_neg (by rw [hset]; decide), HFN.out, if_neg (by simp), hg]
            rfl
          have hg2 := hg
          clear h
          have HG2 := Lib.hid hg2
          clear hg hg2
          go_enter Try.func50, Try.ntmps50
          go_wp2_with fail
          refine DM.out.mono ?_
          rintro e w2 ⟨rfl, n, rfl⟩
          clear DM
          have hK2 : Kept w (w.drewN n) := (Turned.refl _ w).drewN n
          have DF2 := Lib.hid (DF.out n)
          generalize w.drewN n = w2 at hK2 DF2 ⊢
          clear DF
          go_wp2_with fail
          refine DF2.out.mono ?_
          rintro e w3 ⟨rfl, hK3⟩
          clear DF2
          have hK03 := hK2.to hK3
          have CG := gone_any (HH.out.kept hK03) hc
          rw [HG2.out] at CG
          have DG := Lib.hid CG
          clear CG hK2 hK3
          go_wp2_with fail
          refine DG.out.mono ?_
          rintro e w4 ⟨rfl, hK4⟩
          clear DG
          have hK04 := hK03.to hK4
          have h4 := HH.out.kept hK04
          have DK := Lib.hid (keys_any h4 (by omega))
          clear hK03 hK4
          go_wp2_with fail
          refine DK.out.mono ?_
          rintro e w5 ⟨Ak, ck, rfl, hO5, hK5⟩
          clear DK
          have hK05 := hK04.to hK5
          have h5a := h4.kept hK5
          obtain ⟨v5, hB5, _⟩ := h5a.row
          have r0 : w5.cell? ⟨t, 0, none⟩ = some (.int .i64 room) := hB5.cell 0
          have rx : ReadsT chV w5 w5.heap.size 1 Ak E := ReadsT.of_one (V := chV) (fun _ => rfl) hO5
          have HRX := Lib.hid rx
          clear h4 hO5 hK5 hB5 rx hK04
          by_cases hfull : room ≤ (E.length : Int)
          · have df : decide (room ≤ (E.length : Int)) = true := by simpa using hfull
            have hpos : 0 < E.length := by omega
            obtain ⟨b, o, hA, hbl, hcl⟩ := ReadsT.cell_one (V := chV) (fun _ => rfl) HRX.out hpos
            subst hA
            obtain ⟨x, E1, hEx⟩ : ∃ x E1, E = x :: E1 := by
              cases E with
              | nil => simp at hpos
              | cons x E1 => exact ⟨x, E1, rfl⟩
            have hx0 : E[0] = x := by subst hEx; rfl
            rw [hx0, Nat.add_zero] at hcl
            have hcl' : w5.cell? ⟨b, o, none⟩ = some (.int .u16 x.ch) := hcl
            have hxE : x ∈ E := by rw [hEx]; simp
            have HOUT : Hid (outT room E = x.ch) := by show outT room E = _; unfold outT; rw [if_pos hfull, hEx]
            have HCUT : Hid (cutT room E = E1) := by show cutT room E = _; unfold cutT; rw [if_pos hfull, hEx]; rfl
            have HGT : Hid (goneT room E G = G ++ [x.ch]) := by show goneT room E G = _; unfold goneT; rw [if_pos hfull, HOUT.out]
            have HDE : Hid (dropE c E1 = E1) := Lib.hid (dropE_notin (fun z hz => HNI.out z (by rw [hEx]; simp [hz])))
            have CD := drop_table h5a (by omega) (h5a.okE x hxE) (HD.out x hxE)
            have hdh : dropE x.ch E = E1 := by rw [hEx]; exact dropE_head
            rw [hdh] at CD
            have DD := Lib.hid CD
            have hl5 : E1.length ≤ 100000 := by rw [hEx] at hE; simp at hE; omega
            have i1 : (0 : Int) < (E.length : Int) := by omega
            clear CD hdh hx0 hcl hxE hEx hfull h5a
            go_wp2_with fail
            refine DD.out.mono ?_
            rintro e W5 ⟨rfl, h5, hT5⟩
            clear DD
            have hT05 : Turned (TFoot base mb w) w W5 := (hK05.mono (fun _ _ h => h.elim)).then_ hT5 (fun k hk h => by
              rcases h with h | h
              · exact .inl h
              · exact .inr (TRow.since hK05 hk h))
            have hrd5 : ReadsT Value.string W5 W5.heap.size 1 A who := fun j hj => by
              obtain ⟨b', o', h1, h2, h3⟩ := HR.out j hj
              exact ⟨b', o', h1, Nat.lt_of_lt_of_le h2 hT05.size, fun i hi => (hT05.cell (p := ⟨b', o' + j * 1 + i, none⟩) h2 (HRW.out b' o' (by omega) h1 h2)).trans (h3 i hi)⟩
            have hAs : ∃ a, A = some a := by
              obtain ⟨b', o', hA', _⟩ := HR.out 0 (by have := (setR_parts hset).1; omega)
              exact ⟨_, hA'⟩
            obtain ⟨aa, rfl⟩ := hAs
            have DC := Lib.hid (clone_any aa cp who W5.drew (by omega) (hrd5.kept ((Turned.refl _ W5).drew)))
            clear hrd5
            go_wp2_with fail
            refine wp_region_held_drew (S := fun W => True) (by kernel_rfl) trivial (fun hHeld => ?_)
            refine held_take 0 47 (v := ?_) ⟨_, rfl, rfl, by rfl, ?_⟩ (by kernel_rfl) (by kernel_rfl) (by kernel_rfl) (fun _ _ _ h => h) hHeld ?_
            rotate_left
            · (intro w hSw; (try dsimp only at hSw); go_simp; try with_reducible rfl)
            simp only [Act.put, List.setIfInBounds_toArray, List.set_cons_zero, List.set_cons_succ]
            refine held_take 1 48 (v := ?_) ⟨_, rfl, rfl, by rfl, ?_⟩ (by kernel_rfl) (by kernel_rfl) (by kernel_rfl) (fun _ _ _ h => h) hHeld ?_
            rotate_left
            · (intro w hSw; (try dsimp only at hSw); go_simp; try with_reducible rfl)
            simp only [Act.put, List.setIfInBounds_toArray, List.set_cons_zero, List.set_cons_succ]
            refine held_take 2 49 (v := ?_) ⟨_, rfl, rfl, by rfl, ?_⟩ (by kernel_rfl) (by kernel_rfl) (by kernel_rfl) (fun _ _ _ h => h) hHeld ?_
            rotate_left
            · (intro w hSw; (try dsimp only at hSw); go_simp; try with_reducible rfl)
            simp only [Act.put, List.setIfInBounds_toArray, List.set_cons_zero, List.set_cons_succ]
            refine held_take 3 50 (v := ?_) ⟨_, rfl, rfl, by rfl, ?_⟩ (by kernel_rfl) (by kernel_rfl) (by kernel_rfl) (fun _ _ _ h => h) hHeld ?_
            rotate_left
            · (intro w hSw; (try dsimp only at hSw); go_simp; try with_reducible rfl)
            simp only [Act.put, List.setIfInBounds_toArray, List.set_cons_zero, List.set_cons_succ]
            refine held_take 4 51 (v := ?_) ⟨_, rfl, rfl, by rfl, ?_⟩ (by kernel_rfl) (by kernel_rfl) (by kernel_rfl) (fun _ _ _ h => h) hHeld ?_
            rotate_left
            · (intro w hSw; (try dsimp only at hSw); go_simp; try with_reducible rfl)
            simp only [Act.put, List.setIfInBounds_toArray, List.set_cons_zero, List.set_cons_succ]
            refine wpAnyH_ready (rs := [5]) (by kernel_rfl) (by simp) ?_
            refine AllReadyH.cons (o := _) rfl (fun K hK => ?_) AllReadyH.nil
            go_simp
            go_at_call 58
            refine DC.out.mono ?_
            rintro e w6 ⟨A5, c5, rfl, hO6, hK6⟩
            go_wp2_with fail
            refine hK.out _ _ trivial (fun hHeld => ?_)
            clear hK K
            refine held_take 6 53 (v := ?_) ⟨_, rfl, rfl, by rfl, ?_⟩ (by kernel_rfl) (by kernel_rfl) (by kernel_rfl) (fun _ _ _ h => h) hHeld ?_
            rotate_left
            · (intro w hSw; (try dsimp only at hSw); go_simp; try with_reducible rfl)
            simp only [Act.put, List.setIfInBounds_toArray, List.set_cons_zero, List.set_cons_succ]
            have hK56 := ((Turned.refl (fun _ => False) W5).drew).to hK6
            have h6 := h5.kept hK56
            have hb6 : base ≤ W5.drew.heap.size := by have := h5.ge; have := h5.lt; show base ≤ W5.heap.size; omega
            have CU := ouse_any h6 hl5 ⟨c, A5, c5, who, -1⟩ (own_weaken hO6 hb6) hset hc
            simp only at CU
            have DU := Lib.hid CU
            have hfresh : ∀ g, (Value.slice A5 who.length c5).ownBlock = some g → W5.drew.heap.size ≤ g := fun g hg => own_base hO6 hg
            have HFR := Lib.hid hfresh
            clear CU hfresh hO6
            refine wpAnyH_ready (rs := [7]) (by kernel_rfl) (by simp) ?_
            refine AllReadyH.cons (o := _) rfl (fun K hK => ?_) AllReadyH.nil
            go_simp
            go_at_call 64
            refine DU.out.mono ?_
            rintro e w7 ⟨rfl, h7, hT7⟩
            go_wp2_with fail
            refine hK.out _ _ trivial (fun hHeld => ?_)
            clear hK K
            refine wpAnyH_done (by kernel_rfl) ?_ _
            clear DC DU
            go_wp2_with fail
            go_ret2
            refine .inr ⟨HER.out, ⟨c, A5, c5, who, -1⟩, rfl, rfl, rfl, fun g hg => ?_, by rw [HOUT.out]; rfl, ?_, ?_⟩
            · have h1 := HFR.out g hg
              have h2 : w.heap.size ≤ W5.heap.size := hT05.size
              have h3 : W5.heap.size ≤ g := h1
              omega
            · rw [HCUT.out, HGT.out]
              rw [HDE.out] at h7
              exact h7
            · refine hT05.then_ ((hK56.mono (fun _ _ h => h.elim)).then_ hT7 (fun k hk h => TRow.since hK56 hk h)) (fun k hk h => ?_)
              exact TFoot.back hT05 (.inr h) hk
          · have df : decide (room ≤ (E.length : Int)) = false := by simpa using hfull
            have HOUT : Hid (outT room E = 0) := by show outT room E = _; unfold outT; rw [if_neg hfull]
            have HCUT : Hid (cutT room E = E) := by show cutT room E = _; unfold cutT; rw [if_neg hfull]
            have HGT : Hid (goneT room E G = G) := by show goneT room E G = _; unfold goneT; rw [if_neg hfull]
            have HDE : Hid (dropE c E = E) := Lib.hid (dropE_notin HNI.out)
            have hl5 : E.length ≤ 100000 := by omega
            have h5 := h5a
            have hT05 : Turned (TFoot base mb w) w w5 := hK05.mono (fun _ _ h => h.elim)
            clear hfull h5a
            obtain ⟨W5, hW5⟩ : ∃ W5, W5 = w5 := ⟨_, rfl⟩
            go_wp2_with fail
            rw [← hW5] at h5 hT05
            rw [← hW5]
            clear hW5
            have hrd5 : ReadsT Value.string W5 W5.heap.size 1 A who := fun j hj => by
              obtain ⟨b', o', h1, h2, h3⟩ := HR.out j hj
              exact ⟨b', o', h1, Nat.lt_of_lt_of_le h2 hT05.size, fun i hi => (hT05.cell (p := ⟨b', o' + j * 1 + i, none⟩) h2 (HRW.out b' o' (by omega) h1 h2)).trans (h3 i hi)⟩
            have hAs : ∃ a, A = some a := by
              obtain ⟨b', o', hA', _⟩ := HR.out 0 (by have := (setR_parts hset).1; omega)
              exact ⟨_, hA'⟩
            obtain ⟨aa, rfl⟩ := hAs
            have DC := Lib.hid (clone_any aa cp who W5.drew (by omega) (hrd5.kept ((Turned.refl _ W5).drew)))
            clear hrd5
            go_wp2_with fail
            refine wp_region_held_drew (S := fun W => True) (by kernel_rfl) trivial (fun hHeld => ?_)
            refine held_take 0 47 (v := ?_) ⟨_, rfl, rfl, by rfl, ?_⟩ (by kernel_rfl) (by kernel_rfl) (by kernel_rfl) (fun _ _ _ h => h) hHeld ?_
            rotate_left
            · (intro w hSw; (try dsimp only at hSw); go_simp; try with_reducible rfl)
            simp only [Act.put, List.setIfInBounds_toArray, List.set_cons_zero, List.set_cons_succ]
            refine held_take 1 48 (v := ?_) ⟨_, rfl, rfl, by rfl, ?_⟩ (by kernel_rfl) (by kernel_rfl) (by kernel_rfl) (fun _ _ _ h => h) hHeld ?_
            rotate_left
            · (intro w hSw; (try dsimp only at hSw); go_simp; try with_reducible rfl)
            simp only [Act.put, List.setIfInBounds_toArray, List.set_cons_zero, List.set_cons_succ]
            refine held_take 2 49 (v := ?_) ⟨_, rfl, rfl, by rfl, ?_⟩ (by kernel_rfl) (by kernel_rfl) (by kernel_rfl) (fun _ _ _ h => h) hHeld ?_
            rotate_left
            · (intro w hSw; (try dsimp only at hSw); go_simp; try with_reducible rfl)
            simp only [Act.put, List.setIfInBounds_toArray, List.set_cons_zero, List.set_cons_succ]
            refine held_take 3 50 (v := ?_) ⟨_, rfl, rfl, by rfl, ?_⟩ (by kernel_rfl) (by kernel_rfl) (by kernel_rfl) (fun _ _ _ h => h) hHeld ?_
            rotate_left
            · (intro w hSw; (try dsimp only at hSw); go_simp; try with_reducible rfl)
            simp only [Act.put, List.setIfInBounds_toArray, List.set_cons_zero, List.set_cons_succ]
            refine held_take 4 51 (v := ?_) ⟨_, rfl, rfl, by rfl, ?_⟩ (by kernel_rfl) (by kernel_rfl) (by kernel_rfl) (fun _ _ _ h => h) hHeld ?_
            rotate_left
            · (intro w hSw; (try dsimp only at hSw); go_simp; try with_reducible rfl)
            simp only [Act.put, List.setIfInBounds_toArray, List.set_cons_zero, List.set_cons_succ]
            refine wpAnyH_ready (rs := [5]) (by kernel_rfl) (by simp) ?_
            refine AllReadyH.cons (o := _) rfl (fun K hK => ?_) AllReadyH.nil
            go_simp
            go_at_call 58
            refine DC.out.mono ?_
            rintro e w6 ⟨A5, c5, rfl, hO6, hK6⟩
            go_wp2_with fail
            refine hK.out _ _ trivial (fun hHeld => ?_)
            clear hK K
            refine held_take 6 53 (v := ?_) ⟨_, rfl, rfl, by rfl, ?_⟩ (by kernel_rfl) (by kernel_rfl) (by kernel_rfl) (fun _ _ _ h => h) hHeld ?_
            rotate_left
            · (intro w hSw; (try dsimp only at hSw); go_simp; try with_reducible rfl)
            simp only [Act.put, List.setIfInBounds_toArray, List.set_cons_zero, List.set_cons_succ]
            have hK56 := ((Turned.refl (fun _ => False) W5).drew).to hK6
            have h6 := h5.kept hK56
            have hb6 : base ≤ W5.drew.heap.size := by have := h5.ge; have := h5.lt; show base ≤ W5.heap.size; omega
            have CU := ouse_any h6 hl5 ⟨c, A5, c5, who, -1⟩ (own_weaken hO6 hb6) hset hc
            simp only at CU
            have DU := Lib.hid CU
            have hfresh : ∀ g, (Value.slice A5 who.length c5).ownBlock = some g → W5.drew.heap.size ≤ g := fun g hg => own_base hO6 hg
            have HFR := Lib.hid hfresh
            clear CU hfresh hO6
            refine wpAnyH_ready (rs := [7]) (by kernel_rfl) (by simp) ?_
            refine AllReadyH.cons (o := _) rfl (fun K hK => ?_) AllReadyH.nil
            go_simp
            go_at_call 64
            refine DU.out.mono ?_
            rintro e w7 ⟨rfl, h7, hT7⟩
            go_wp2_with fail
            refine hK.out _ _ trivial (fun hHeld => ?_)
            clear hK K
            refine wpAnyH_done (by kernel_rfl) ?_ _
            clear DC DU
            go_wp2_with fail
            go_ret2
            refine .inr ⟨HER.out, ⟨c, A5, c5, who, -1⟩, rfl, rfl, rfl, fun g hg => ?_, by rw [HOUT.out]; rfl, ?_, ?_⟩
            · have h1 := HFR.out g hg
              have h2 : w.heap.size ≤ W5.heap.size := hT05.size
              have h3 : W5.heap.size ≤ g := h1
              omega
            · rw [HCUT.out, HGT.out]
              rw [HDE.out] at h7
              exact h7
            · refine hT05.then_ ((hK56.mono (fun _ _ h => h.elim)).then_ hT7 (fun k hk h => TRow.since hK56 hk h)) (fun k hk h => ?_)
              exact TFoot.back hT05 (.inr h) hk
        · have HER : Hid (openEr c who E G = 21) := by
            show openEr c who E G = 21
            unfold openEr
            rw [if_neg (by rw [HK2.out]; decide), if_neg (by rw [hset]; decide), HFN.out, if_neg (by simp), hg]
            rfl
          have HG2 := Lib.hid hg
          clear hg h
          go_enter Try.func50, Try.ntmps50
          go_wp2_with fail
          refine DM.out.mono ?_
          rintro e w2 ⟨rfl, n, rfl⟩
          clear DM
          have hK2 : Kept w (w.drewN n) := (Turned.refl _ w).drewN n
          have DF2 := Lib.hid (DF.out n)
          generalize w.drewN n = w2 at hK2 DF2 ⊢
          clear DF
          go_wp2_with fail
          refine DF2.out.mono ?_
          rintro e w3 ⟨rfl, hK3⟩
          clear DF2
          have hK03 := hK2.to hK3
          have CG := gone_any (HH.out.kept hK03) hc
          rw [HG2.out] at CG
          have DG := Lib.hid CG
          clear CG
          go_wp2_with fail
          refine DG.out.mono ?_
          rintro e w4 ⟨rfl, hK4⟩
          go_wp2_with fail
          go_ret2
          exact .inl ⟨by rw [HER.out]; decide, by rw [HER.out]; rfl, HH.out.kept (hK03.to hK4), hK03.to hK4⟩
      · rw [hpl] at CF
        simp only [placeI] at CF
        have DF := Lib.hid CF
        have HER : Hid (openEr c who E G = 11) := by
          show openEr c who E G = 11
          unfold openEr
          rw [if_neg (by rw [HK2.out]; decide), if_neg (by rw [hset]; decide), if_pos (found_some hpl)]
        have i0' : (0 : Int) ≤ (i : Int) := by omega
        clear CM CF hpl h
        go_enter Try.func50, Try.ntmps50
        go_wp2_with fail
        refine DM.out.mono ?_
        rintro e w2 ⟨rfl, n, rfl⟩
        clear DM
        go_wp2_with fail
        refine (DF.out n).mono ?_
        rintro e w3 ⟨rfl, hK3⟩
        go_wp2_with fail
        go_ret2
        have hK03 := ((Turned.refl (fun _ => False) w).drewN n).to hK3
        exact .inl ⟨by rw [HER.out]; decide, by rw [HER.out]; rfl, HH.out.kept hK03, hK03⟩
  · have k1 : (c / 8192 != 2) = true := by rw [bne_iff_ne]; exact hk
    have HER : Hid (openEr c who E G = 1) := by
      show openEr c who E G = 1
      unfold openEr
      rw [if_pos hk]
    clear hk CM h ht0
    go_enter Try.func50, Try.ntmps50
    go_wp2_with fail
    go_ret2
    exact .inl ⟨by rw [HER.out]; decide, by rw [HER.out]; rfl, HH.out, Turned.refl _ _⟩
end
end Go.Proofs.Ytnicfiochnkjbaa
