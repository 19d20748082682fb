/- The document's table of channels: Who, New, without, Close. -/
import Derived.Test.YtnicfiochnkjbaaU1
namespace Go.Proofs.Ytnicfiochnkjbaa
open Go.RowKit
section
variable {w w' W w3 : World} {base r : Nat} {room c : Int} {I : List TEnt} {G : List Int}
set_option maxRecDepth 100000 in
theorem who19_any (h : RefT w base r room I G) (hI : I.length ≤ 1000000) (hG : G.length ≤ 1000000) (c : Int) :
    Calls Try.prog 37 #[.pointer (some ⟨r, 0, none⟩), .int .u16 c] w fun e w' => e = .returned (.tuple #[who19 c I G, .int .i64 (getEr c I G)]) ∧ Kept w w' := by
  have CW := wrong19_any h hI hG c
  rcases ho : openT c I G with _ | x
  · have hw : who19 c I G = .slice none 0 0 := by unfold who19; rw [ho]
    have b0 : (getEr c I G != 0) = true := by rw [bne_iff_ne]; exact (open_none ho).2
    rw [hw]
    generalize getEr c I G = ge at CW b0 ⊢
    have DW := Lib.hid CW
    clear CW ho hw h
    go_enter Try.func37, Try.ntmps37
    go_wp2_with fail
    refine DW.out.mono ?_
    rintro e wx ⟨rfl, rfl⟩
    clear DW
    go_wp2_with fail
    go_ret2
    exact ⟨rfl, Turned.refl _ _⟩
  · obtain ⟨_, h2, h3, _, h5, h6⟩ := open_some ho
    have hw : who19 c I G = .slice x.A x.who.length x.c := by unfold who19; rw [ho]
    rw [hw, h2]
    rw [h2] at CW
    have CP := place19_any h hI c
    have hf : foundT c I = some x := by
      unfold openT at ho
      rw [h3] at ho
      exact ho
    obtain ⟨i, hp⟩ : ∃ i, placeT c I = some i := by
      rcases hp : placeT c I with _ | i
      · rw [found_place hp] at hf
        cases hf
      · exact ⟨i, rfl⟩
    rw [hp] at CP
    simp only [placeI] at CP
    obtain ⟨y, hx1, hx2, hx3, hil⟩ := placeT_in hp
    have hyx : y = x := by
      have := find_place hp hx1
      unfold foundT at hf
      rw [hf] at this
      injection this with this
      exact this.symm
    subst hyx
    obtain ⟨v, vo, hB, hO, hQ⟩ := h.row
    obtain ⟨Av, cv, rfl⟩ := own_slice hO
    have c0 : w.cell? ⟨r, 0, none⟩ = some (.slice Av I.length cv) := hB.cell 0
    have HR := ReadsT.of_own (V := entV) (fun _ => rfl) hO
    obtain ⟨b, o, rfl, hbl, hcell⟩ := HR i hil
    have hxe : I[i] = y := by rw [List.getElem?_eq_getElem hil] at hx1; injection hx1
    rw [hxe] at hcell
    have a1 : w.cell? ⟨b, o + i * 3 + 1, none⟩ = some (.slice y.A y.who.length y.c) := hcell 1 (by omega)
    have i0 : (0 : Int) ≤ (i : Int) := by omega
    have i1 : (i : Int) < (I.length : Int) := by omega
    have DP := Lib.hid (fun W (hk : Kept w W) => place19_any (h.kept hk) hI c)
    rw [hp] at DP
    simp only [placeI] at DP
    have DW := Lib.hid CW
    clear CP CW hp hcell hxe hx1 hx2 hx3 h2 h3 h5 h6 ho hf hw h hB hO hQ HR
    go_enter Try.func37, Try.ntmps37
    go_wp2_with fail
    refine DW.out.mono ?_
    rintro e wx ⟨rfl, rfl⟩
    clear DW
    go_wp2_with fail
    refine wp_region_held_drew (S := fun W => W.cell? ⟨r, 0, none⟩ = some (.slice (some ⟨b, o, none⟩) I.length cv) ∧ W.cell? ⟨b, o + i * 3 + 1, none⟩ = some (.slice y.A y.who.length y.c)) (by kernel_rfl) ⟨c0, a1⟩ (fun hHeld => ?_)
    refine held_take 0 13 (v := ?_) ⟨_, rfl, rfl, by rfl, ?_⟩ (by kernel_rfl) (by kernel_rfl) (by kernel_rfl) (fun _ _ _ h => h) hHeld ?_
    rotate_left
    · (intro w hSw; (try dsimp only at hSw); go_simp; try with_reducible rfl)
    simp only [Act.put, List.setIfInBounds_toArray, List.set_cons_zero, List.set_cons_succ]
    refine held_take 1 14 (v := ?_) ⟨_, rfl, rfl, by rfl, ?_⟩ (by kernel_rfl) (by kernel_rfl) (by kernel_rfl) (fun _ _ _ h => h) hHeld ?_
    rotate_left
    · (intro w hSw; (try dsimp only at hSw); go_simp; try with_reducible rfl)
    simp only [Act.put, List.setIfInBounds_toArray, List.set_cons_zero, List.set_cons_succ]
    refine held_take 2 15 (v := ?_) ⟨_, rfl, rfl, by rfl, ?_⟩ (by kernel_rfl) (by kernel_rfl) (by kernel_rfl) (fun _ _ _ h => h) hHeld ?_
    rotate_left
    · (intro w hSw; (try dsimp only at hSw); go_simp; try with_reducible rfl)
    simp only [Act.put, List.setIfInBounds_toArray, List.set_cons_zero, List.set_cons_succ]
    refine held_take 3 16 (v := ?_) ⟨_, rfl, rfl, by rfl, ?_⟩ (by kernel_rfl) (by kernel_rfl) (by kernel_rfl) (fun _ _ _ h => h) hHeld ?_
    rotate_left
    · (intro w hSw; (try dsimp only at hSw); go_simp; try with_reducible rfl)
    simp only [Act.put, List.setIfInBounds_toArray, List.set_cons_zero, List.set_cons_succ]
    refine held_take 4 17 (v := ?_) ⟨_, rfl, rfl, by rfl, ?_⟩ (by kernel_rfl) (by kernel_rfl) (by kernel_rfl) (fun _ _ _ h => h) hHeld ?_
    rotate_left
    · (intro w hSw; (try dsimp only at hSw); go_simp; try with_reducible rfl)
    simp only [Act.put, List.setIfInBounds_toArray, List.set_cons_zero, List.set_cons_succ]
    refine held_take 5 18 (v := ?_) ⟨_, rfl, rfl, by rfl, ?_⟩ (by kernel_rfl) (by kernel_rfl) (by kernel_rfl) (fun _ _ _ h => h) hHeld ?_
    rotate_left
    · (intro w hSw; (try dsimp only at hSw); go_simp; try with_reducible rfl)
    simp only [Act.put, List.setIfInBounds_toArray, List.set_cons_zero, List.set_cons_succ]
    refine wpAnyH_ready (rs := [6]) (by kernel_rfl) (by simp) ?_
    refine AllReadyH.cons (o := _) rfl (fun K hK => ?_) AllReadyH.nil
    go_simp
    go_at_call 53
    refine (DP.out _ (Turned.refl _ w).drew).mono ?_
    rintro e wx ⟨rfl, rfl⟩
    go_wp2_with fail
    refine hK.out _ _ (⟨c0, a1⟩) (fun hHeld => ?_)
    clear hK K
    refine held_take 7 20 (v := ?_) ⟨_, rfl, rfl, by rfl, ?_⟩ (by kernel_rfl) (by kernel_rfl) (by kernel_rfl) (fun _ _ _ h => h) hHeld ?_
    rotate_left
    · (intro w hSw; (try dsimp only at hSw); go_simp; try with_reducible rfl)
    simp only [Act.put, List.setIfInBounds_toArray, List.set_cons_zero, List.set_cons_succ]
    refine held_take 8 21 (v := ?_) ⟨_, rfl, rfl, by rfl, ?_⟩ (by kernel_rfl) (by kernel_rfl) (by kernel_rfl) (fun _ _ _ h => h) hHeld ?_
    rotate_left
    · (intro w hSw; (try dsimp only at hSw); go_simp; try with_reducible rfl)
    simp only [Act.put, List.setIfInBounds_toArray, List.set_cons_zero, List.set_cons_succ]
    refine held_take 9 22 (v := ?_) ⟨_, rfl, rfl, by rfl, ?_⟩ (by kernel_rfl) (by kernel_rfl) (by kernel_rfl) (fun _ _ _ h => h) hHeld ?_
    rotate_left
    · (intro w hSw; (try dsimp only at hSw); go_simp; try with_reducible rfl)
    simp only [Act.put, List.setIfInBounds_toArray, List.set_cons_zero, List.set_cons_succ]
    refine held_take 10 4 (v := ?_) ⟨_, rfl, rfl, by rfl, ?_⟩ (by kernel_rfl) (by kernel_rfl) (by kernel_rfl) (fun _ _ _ h => h) hHeld ?_
    rotate_left
    · (intro w hSw; (try dsimp only at hSw); go_simp; try with_reducible rfl)
    simp only [Act.put, List.setIfInBounds_toArray, List.set_cons_zero, List.set_cons_succ]
    refine held_take 11 5 (v := ?_) ⟨_, rfl, rfl, by rfl, ?_⟩ (by kernel_rfl) (by kernel_rfl) (by kernel_rfl) (fun _ _ _ h => h) hHeld ?_
    rotate_left
    · (intro w hSw; (try dsimp only at hSw); go_simp; try with_reducible rfl)
    simp only [Act.put, List.setIfInBounds_toArray, List.set_cons_zero, List.set_cons_succ]
    refine wpAnyH_done (by kernel_rfl) ?_ _
    go_wp2_with fail
    go_ret2
    exact ⟨rfl, (Turned.refl _ w).drew⟩
/-- What New tells. -/
def NewU (room : Int) (w : World) (e : Ending) (w' : World) : Prop :=
  ((room < 1 ∨ 50 < room) ∧ e = .returned (.pointer none) ∧ w = w') ∨ (1 ≤ room ∧ room ≤ 50) ∧ ∃ r, e = .returned (.pointer (some ⟨r, 0, none⟩)) ∧ (∀ base, base ≤ w.heap.size → RefT w' base r room [] []) ∧ Kept w w'
set_option maxRecDepth 100000 in
theorem new19_any (room : Int) (w : World) (_hr : i64 room) : Calls Try.prog 29 #[.int .i64 room] w (NewU room w) := by
  by_cases h1 : 1 ≤ room
  · have d1 : decide (room < 1) = false := by rw [decide_eq_false_iff_not]; omega
    by_cases h2 : room ≤ 50
    · have d2 : decide (50 < room) = false := by rw [decide_eq_false_iff_not]; omega
      have HC : Hid (∀ base, base ≤ w.heap.size → RefT (w.alloc (.cells #[.slice none 0 0, .slice none 0 0, .int .i64 room] 72)) base w.heap.size room [] []) := fun base hb =>
        ⟨hb, ⟨_, _, Blk.new w _ _, ⟨by simp [cellsOf], .inl ⟨rfl, rfl⟩⟩, ⟨by simp, .inl ⟨rfl, rfl⟩⟩⟩, fun x hx => (by cases hx), fun x hx => (by cases hx), fun x hx => (by cases hx), fun x hx => (by cases hx)⟩
      have HK : Hid (Kept w (w.alloc (.cells #[.slice none 0 0, .slice none 0 0, .int .i64 room] 72))) := Lib.hid ((Turned.refl _ w).alloc _)
      go_enter Try.func29, Try.ntmps29
      go_wp2_with fail
      go_ret
      exact .inr ⟨⟨h1, h2⟩, _, rfl, HC.out, HK.out⟩
    · have d2 : decide (50 < room) = true := by rw [decide_eq_true_eq]; omega
      go_enter Try.func29, Try.ntmps29
      go_wp2_with fail
      go_ret
      exact .inl ⟨.inr (by omega), rfl, rfl⟩
  · have d1 : decide (room < 1) = true := by rw [decide_eq_true_eq]; omega
    go_enter Try.func29, Try.ntmps29
    go_wp2_with fail
    go_ret
    exact .inl ⟨.inl (by omega), rfl, rfl⟩
end

def WoPost19 (w : World) (r k : Nat) (vo : Value) (room : Int) (I : List TEnt) (e : Ending) (w' : World) : Prop :=
  e = .returned (.tuple #[]) ∧ ∃ v', Blk w' r 72 #[v', vo, .int .i64 room] ∧ w'.ownsRow w.heap.size 74 3 v' (I.eraseIdx k).length (cellsOf entV (I.eraseIdx k)) ∧ Turned (fun j => j = r) w w'
set_option maxRecDepth 100000 in
set_option maxHeartbeats 1000000 in
theorem without19_any {w : World} {base r k : Nat} {vo : Value} {room : Int} {v : Value} {I : List TEnt} (B : Blk w r 72 #[v, vo, .int .i64 room]) (O : w.ownsRow base 74 3 v I.length (cellsOf entV I)) (hk : k < I.length) (hn : I.length ≤ 1000000) :
    Calls Try.prog 55 #[.pointer (some ⟨r, 0, none⟩), .int .i64 k] w (WoPost19 w r k vo room I) := by
  obtain ⟨i0, hi0, hz0, hz1, hz2⟩ := info_parts info_open19
  obtain ⟨A, c, rfl⟩ := own_slice O
  obtain ⟨p1, p2, p3⟩ := own_cap O
  unfold maxLen at p2
  have HR := ReadsT.of_own (V := entV) (fun _ => rfl) O
  have hrl := B.lt
  have c0 := B.cell 0
  rw [show (#[.slice A I.length c, vo, .int .i64 room] : Array Value)[0]? = some (.slice A I.length c) from rfl] at c0
  obtain ⟨A1, x1, r1⟩ := slice_hi (P := Try.prog) (t := 70) Try.underlying70 hi0 hz1 HR rfl p1 k (by omega)
  obtain ⟨A3, x3, r3⟩ := slice_lo (P := Try.prog) (t := 70) Try.underlying70 hi0 hz1 HR rfl p1 ((k : Int) + 1) (k + 1) (by omega) (by omega)
  have hE := own_empty w w.heap.size 74 3 (Nat.le_refl _)
  have hT0 : Turned (fun q => w.heap.size ≤ q) w (w.alloc (.cells #[] 74)) := (Turned.refl _ _).alloc _
  have r1' := r1.below (fun q hq => hT0.block q hq (fun h => by omega))
  have e0 : (w.alloc (.cells #[] 74)).cell? ⟨r, 0, none⟩ = some (.slice A I.length c) := (hT0.cell (p := ⟨r, 0, none⟩) hrl (by simp; omega)).trans c0
  have HL1 : Hid ((I.take k).length = k) := by show (I.take k).length = k; rw [List.length_take]; omega
  have HL2 : Hid ((I.drop (k + 1)).length = I.length - (k + 1)) := by show (I.drop (k + 1)).length = _; rw [List.length_drop]
  have hsz4 := hT0.size
  have HB := Lib.hid B
  have HC0 := Lib.hid c0
  clear HR p3 O r1 B c0
  have R3 := Lib.hid r3
  clear r3
  have k0 : (0 : Int) ≤ (k : Int) := by omega
  go_enter Try.func55, Try.ntmps55
  go_upto_region 1 with (at_builtin; refine wpList_append_reads (V := entV) rfl (.tmp 5) (.tmp 11) 70 rfl w.heap.size 74 i0 _ 3 40 Try.underlying70 hi0 hz0 hz1 hz2 rfl (by omega) (fun _ => rfl) entV_one _ _ _ rfl hE _ A1 k c (I.take k) rfl HL1.out r1' (by unfold maxLen; omega) (by omega) hsz4 ?_; intro v5 w5 O5 hg5; rw [Nat.zero_add, List.nil_append] at O5; obtain ⟨A5, c5, rfl⟩ := own_slice O5)
  have hT5 := hT0.grown hg5 (fun q h hq => own_base hE h)
  have d0 := (hT5.cell (p := ⟨r, 0, none⟩) hrl (by simp; omega)).trans HC0.out
  have r8 := R3.out.below (fun q hq => hT5.block q hq (fun h => by omega))
  have hsz5 := hT5.size
  clear hE r1' hg5 hsz4 x1 hT0 e0
  go_wp2_with (at_builtin; refine wpList_append_reads (V := entV) rfl (.tmp 14) (.tmp 21) 70 rfl w.heap.size 74 i0 _ 3 40 Try.underlying70 hi0 hz0 hz1 hz2 rfl (by omega) (fun _ => rfl) entV_one _ _ _ rfl O5 _ A3 _ (c - (k + 1)) (I.drop (k + 1)) rfl HL2.out r8 (by unfold maxLen; omega) (by omega) hsz5 ?_; intro v8 w8 O8 hg8; obtain ⟨A8, c8, rfl⟩ := own_slice O8; have hT8 := hT5.grown hg8 (fun q h hq => own_base O5 h); have B8 := HB.out.turned hT8 (by simp; omega); have g0 := B8.cell 0; have g1 := B8.frozen 0; rw [show (#[.slice A I.length c, vo, .int .i64 room] : Array Value)[0]? = some (.slice A I.length c) from rfl] at g0)
  go_end0
  refine ⟨rfl, _, B8.set_ 0 _, ?_, ?_⟩
  · have O9 := own_turned O8 ((Turned.refl (fun j => j = r) w8).setCell (p := ⟨r, 0, none⟩) (fun _ => rfl) (.slice A8 (k + (I.length - (k + 1))) c8)) (fun g hg e => by have := own_base O8 hg; omega)
    rw [← cellsOf_append, ← List.eraseIdx_eq_take_drop_succ] at O9
    have hln : (I.eraseIdx k).length = k + (I.length - (k + 1)) := by rw [List.length_eraseIdx_of_lt hk]; omega
    rw [hln]
    exact O9
  · exact (hT8.mono (S' := fun j => j = r) (fun i hi h => by omega)).setCell (p := ⟨r, 0, none⟩) (fun _ => rfl) _

section
variable {w w' W w3 : World} {base r : Nat} {room c : Int} {I : List TEnt} {G : List Int}
/-- All but one. -/
theorem RefT.less {k : Nat} {v vo : Value} (h : RefT w base r room I G) (hB0 : Blk w r 72 #[v, vo, .int .i64 room]) (hQ0 : w.ownsRow base 56 1 vo G.length (G.map atV)) {e : Ending} (hp : WoPost19 w r k vo room I e w') : RefT w' base r room (I.eraseIdx k) G ∧ e = .returned (.tuple #[]) ∧ Turned (fun j => j = r) w w' ∧ ∃ v', Blk w' r 72 #[v', vo, .int .i64 room] ∧ w'.ownsRow w.heap.size 74 3 v' (I.eraseIdx k).length (cellsOf entV (I.eraseIdx k)) ∧ w'.ownsRow base 56 1 vo G.length (G.map atV) := by
  obtain ⟨he, v', hB, hO, hT⟩ := hp
  have hb : base ≤ w.heap.size := by have := h.ge; have := hB0.lt; omega
  have hQ : w'.ownsRow base 56 1 vo G.length (G.map atV) := own_turned hQ0 hT (fun g hg e => by subst e; exact own_blk_ne hQ0 hB0 (by decide) hg)
  refine ⟨⟨h.ge, ⟨v', vo, hB, own_weaken hO hb, hQ⟩, fun x hx => ?_, fun x hx => h.set x (List.mem_of_mem_eraseIdx hx), fun x hx => h.okE x (List.mem_of_mem_eraseIdx hx), h.okG⟩, he, hT, v', hB, hO, hQ⟩
  have hx' := List.mem_of_mem_eraseIdx hx
  refine own_turned (h.who x hx') hT (fun g hg e => ?_)
  subst e
  exact own_blk_ne (h.who x hx') hB0 (by decide) hg
theorem RefT.without (h : RefT w base r room I G) {k : Nat} (hk : k < I.length) (hI : I.length ≤ 1000000) :
    Calls Try.prog 55 #[.pointer (some ⟨r, 0, none⟩), .int .i64 k] w fun e w' => e = .returned (.tuple #[]) ∧ RefT w' base r room (I.eraseIdx k) G ∧ Turned (fun j => j = r) w w' ∧ ∀ v vo, Blk w' r 72 #[v, vo, .int .i64 room] → ∀ g, v.ownBlock = some g → w.heap.size ≤ g := by
  obtain ⟨v, vo, hB, hO, hQ⟩ := h.row
  refine (without19_any hB hO hk hI).mono fun e w' hp => ?_
  obtain ⟨h1, h2, h3, v', hB', hO', _⟩ := h.less hB hQ hp
  refine ⟨h2, h1, h3, fun v2 vo2 hB2 g hg => ?_⟩
  unfold Blk at hB' hB2
  rw [hB'] at hB2
  injection hB2 with hB2
  injection hB2 with hB2
  have : v' = v2 ∧ vo = vo2 := by simpa using hB2
  rw [← this.1] at hg
  exact own_base hO' hg
/-- A channel more that is gone. -/
theorem RefT.outed {v2 vo v3 : Value} (hR : RefT W base r room I G) (B2 : Blk W r 72 #[v2, vo, .int .i64 room]) (O2 : W.ownsRow base 74 3 v2 I.length (cellsOf entV I)) (Q2 : W.ownsRow base 56 1 vo G.length (G.map atV))
    (hg3 : (W.alloc (.cells #[.int .u16 c] 56)).grownBy w3 vo.ownBlock) (Q3 : w3.ownsRow base 56 1 v3 (G.length + 1) (G.map atV ++ [.int .u16 c])) (hlt3 : ∀ g, v3.ownBlock = some g → vo.ownBlock = some g ∨ W.heap.size ≤ g) (hc : u16 c) :
    RefT (w3.setCell ⟨r, 1, none⟩ v3) base r room I (G ++ [c]) ∧ Turned (fun k => k = r ∨ vo.ownBlock = some k) W (w3.setCell ⟨r, 1, none⟩ v3) := by
  have hT3 : Turned (fun k => vo.ownBlock = some k) W w3 := ((Turned.refl _ W).alloc _).grown hg3 (fun k h _ => h)
  have hT : Turned (fun k => k = r ∨ vo.ownBlock = some k) W (w3.setCell ⟨r, 1, none⟩ v3) := (hT3.mono (S' := fun k => k = r ∨ vo.ownBlock = some k) (fun i _ h => .inr h)).setCell (p := ⟨r, 1, none⟩) (fun _ => .inl rfl) _
  have B3 : Blk w3 r 72 #[v2, vo, .int .i64 room] := B2.turned hT3 (own_blk_ne Q2 B2 (by decide))
  refine ⟨⟨hR.ge, ⟨v2, v3, B3.set_ 1 v3, ?_, ?_⟩, fun x hx => ?_, hR.set, hR.okE, fun x hx => ?_⟩, hT⟩
  · refine own_turned O2 hT (fun g hg e => ?_)
    rcases e with rfl | e
    · exact own_blk_ne O2 B2 (by decide) hg
    · exact own_own_ne O2 Q2 (by decide) hg e
  · rw [List.length_append, List.length_singleton, List.map_append]
    refine own_turned Q3 ((Turned.refl (fun k => k = r) w3).setCell (p := ⟨r, 1, none⟩) (fun _ => rfl) v3) (fun g hg e => ?_)
    subst e
    rcases hlt3 _ hg with h | h
    · exact own_blk_ne Q2 B2 (by decide) h
    · have := B2.lt
      omega
  · refine own_turned (hR.who x hx) hT (fun g hg e => ?_)
    rcases e with rfl | e
    · exact own_blk_ne (hR.who x hx) B2 (by decide) hg
    · exact own_own_ne (hR.who x hx) Q2 (by decide) hg e
  · rcases List.mem_append.1 hx with hx | hx
    · exact hR.okG x hx
    · rw [List.mem_singleton.1 hx]
      exact hc
theorem UFoot.of_row {v vo : Value} (hT : Turned (fun j => j = r) w W) (hge : base ≤ r) (B : Blk w r 72 #[v, vo, .int .i64 room]) {e : TypeId} {size : Nat} {v2 : Value} {n : Nat} {xs : List Value} (O2 : W.ownsRow base e size v2 n xs) (he : e = 74 ∨ e = 56) {v3 v4 : Value} (B2 : Blk W r 72 #[v3, v4, .int .i64 room]) {k : Nat} (hk : k < w.heap.size) (h : k = r ∨ v2.ownBlock = some k) : UFoot base w k := by
  rcases h with rfl | h
  · exact ⟨hge, _, _, B, .inl rfl⟩
  · obtain ⟨g1, cs, g2⟩ := own_blk O2 h
    refine ⟨g1, _, cs, ?_, .inr he⟩
    unfold Blk at g2 ⊢
    rw [← hT.block k hk (fun e => ?_)]
    · exact g2
    · subst e
      exact own_blk_ne O2 B2 (by rcases he with rfl | rfl <;> decide) h
def Close19 (w : World) (base r : Nat) (room c : Int) (I : List TEnt) (G : List Int) (e : Ending) (w' : World) : Prop :=
  e = .returned (.int .i64 (getEr c I G)) ∧ RefT w' base r room (if (openT c I G).isSome then dropE c I else I) (if (openT c I G).isSome then G ++ [c] else G) ∧ Turned (UFoot base w) w w'
set_option maxRecDepth 100000 in
set_option maxHeartbeats 1000000 in
theorem close19_any (h : RefT w base r room I G) (hI : I.length ≤ 100000) (hG : G.length ≤ 100000) (hc : u16 c) :
    Calls Try.prog 34 #[.pointer (some ⟨r, 0, none⟩), .int .u16 c] w (Close19 w base r room c I G) := by
  have CW := wrong19_any h (by omega) (by omega) c
  have HH := Lib.hid h
  unfold Close19
  rcases ho : openT c I G with _ | x
  · have b0 : (getEr c I G != 0) = true := by rw [bne_iff_ne]; exact (open_none ho).2
    simp only [Option.isSome, Bool.false_eq_true, if_false]
    generalize getEr c I G = ge at CW b0 ⊢
    have DW := Lib.hid CW
    clear CW ho h
    go_enter Try.func34, Try.ntmps34
    go_wp2_with fail
    refine DW.out.mono ?_
    rintro e wx ⟨rfl, rfl⟩
    clear DW
    go_wp2_with fail
    go_ret
    exact ⟨rfl, HH.out, Turned.refl _ _⟩
  · obtain ⟨_, h2, h3, _, h5, h6⟩ := open_some ho
    simp only [Option.isSome, if_true]
    rw [h2]
    rw [h2] at CW
    have hf : foundT c I = some x := by
      unfold openT at ho
      rw [h3] at ho
      exact ho
    obtain ⟨i, hp⟩ : ∃ i, placeT c I = some i := by
      rcases hp : placeT c I with _ | i
      · rw [found_place hp] at hf
        cases hf
      · exact ⟨i, rfl⟩
    obtain ⟨y, hx1, hx2, hx3, hil⟩ := placeT_in hp
    have CP := place19_any h (by omega) c
    rw [hp] at CP
    simp only [placeI] at CP
    have DP := Lib.hid CP
    have DW := Lib.hid CW
    have HD : Hid (dropE c I = I.eraseIdx i) := by show dropE c I = _; unfold dropE; rw [hp]
    obtain ⟨v, vo, hB, hO, hQ⟩ := h.row
    have HB := Lib.hid hB
    obtain ⟨i0, hi0, hz0, hz1, hz2⟩ := info_parts info_atomz
    clear CP CW hp hx1 hx2 hx3 h2 h3 h5 h6 ho hf h hO hQ hB
    rw [HD.out]
    go_enter Try.func34, Try.ntmps34
    go_wp2_with fail
    refine DW.out.mono ?_
    rintro e wx ⟨rfl, rfl⟩
    clear DW
    go_wp2_with fail
    refine DP.out.mono ?_
    rintro e wx ⟨rfl, rfl⟩
    clear DP
    go_wp2_with fail
    refine (HH.out.without hil (by omega)).mono ?_
    rintro e w2 ⟨rfl, hR2, hT2, _⟩
    obtain ⟨v2, vo2, hB2, hO2, hQ2⟩ := hR2.row
    obtain ⟨Ao, co, rfl⟩ := own_slice hQ2
    have b1 : w2.cell? ⟨r, 1, none⟩ = some (.slice Ao G.length co) := hB2.cell 1
    have bf := hB2.frozen 1
    have hrl := hB2.lt
    have hge := HH.out.ge
    go_wp2_with (at_builtin; refine wpList_append_lies _ rfl (.tmp 21) (.tmp 23) 68 rfl base 56 i0 _ 1 2 Try.underlying68 hi0 hz0 hz1 hz2 rfl (by omega) (.slice Ao G.length co) G.length _ rfl (hQ2.alloc _) ⟨w2.heap.size, 0, none⟩ 1 1 [.int .u16 c] rfl rfl (World.news_of_block (cs := #[.int .u16 c]) (t := 56) (fr := (0, 0)) (heap_alloc_new w2 _)) (by simp [Value.oneCell']) (by omega) (by unfold maxLen; omega) (by omega) (by simp; omega) (w2.heap.size + 1) (by simp) ?_; intro gg cap w3 Q3 hg3 hat hlt3; have B3 : Blk w3 r 72 _ := (hB2.alloc _).grown hg3 (Ne.symm (own_blk_ne hQ2 hB2 (by decide))); have e0 : w3.cell? ⟨r, 1, none⟩ = some (.slice Ao G.length co) := B3.cell 1; have e1 := B3.frozen 1)
    go_ret
    obtain ⟨hF, hTF⟩ := RefT.outed hR2 hB2 hO2 hQ2 hg3 Q3 (pushed_at hat) hc
    exact ⟨rfl, hF, (hT2.mono (S' := UFoot base w) (fun i hi h => UFoot.of_row hT2 hge HB.out hQ2 (.inr rfl) hB2 hi (.inl h))).then_ hTF (fun i hi h => UFoot.of_row hT2 hge HB.out hQ2 (.inr rfl) hB2 hi h)⟩
end
end Go.Proofs.Ytnicfiochnkjbaa
