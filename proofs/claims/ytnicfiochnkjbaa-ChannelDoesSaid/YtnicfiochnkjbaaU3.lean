/- The document's table of channels: Use. -/
import Derived.Test.YtnicfiochnkjbaaU2
namespace Go.Proofs.Ytnicfiochnkjbaa
open Go.RowKit
section
variable {w w' W w3 : World} {base r : Nat} {room c : Int} {I : List TEnt} {G : List Int}
/-- One more behind the last. -/
theorem RefT.pushed {v2 vo v3 : Value} {y : TEnt} (hR : RefT W base r room I G) (B2 : Blk W r 72 #[v2, vo, .int .i64 room]) (O2 : W.ownsRow base 74 3 v2 I.length (cellsOf entV I)) (Q2 : W.ownsRow base 56 1 vo G.length (G.map atV))
    (hT3 : Turned (fun k => v2.ownBlock = some k) W w3) (O3 : w3.ownsRow base 74 3 v3 (I.length + 1) (cellsOf entV I ++ y.cs.toList)) (hlt3 : ∀ g, v3.ownBlock = some g → v2.ownBlock = some g ∨ W.heap.size ≤ g)
    (hy : W.ownsRow base 51 1 (.slice y.A y.who.length y.c) y.who.length (y.who.map Value.string)) (hs : setR y.who = true) (hc : u16 y.ch) :
    RefT (w3.setCell ⟨r, 0, none⟩ v3) base r room (I ++ [y]) G ∧ Turned (fun k => k = r ∨ v2.ownBlock = some k) W (w3.setCell ⟨r, 0, none⟩ v3) := by
  have hT : Turned (fun k => k = r ∨ v2.ownBlock = some k) W (w3.setCell ⟨r, 0, none⟩ v3) := (hT3.mono (S' := fun k => k = r ∨ v2.ownBlock = some k) (fun i _ h => .inr h)).setCell (p := ⟨r, 0, none⟩) (fun _ => .inl rfl) _
  have B3 : Blk w3 r 72 #[v2, vo, .int .i64 room] := B2.turned hT3 (own_blk_ne O2 B2 (by decide))
  have hw : ∀ {x : TEnt}, W.ownsRow base 51 1 (.slice x.A x.who.length x.c) x.who.length (x.who.map Value.string) → (w3.setCell ⟨r, 0, none⟩ v3).ownsRow base 51 1 (.slice x.A x.who.length x.c) x.who.length (x.who.map Value.string) := fun {x} hx =>
    own_turned hx hT (fun g hg e => by
      rcases e with rfl | e
      · exact own_blk_ne hx B2 (by decide) hg
      · exact own_own_ne hx O2 (by decide) hg e)
  refine ⟨⟨hR.ge, ⟨v3, vo, B3.set_ 0 v3, ?_, ?_⟩, fun x hx => ?_, fun x hx => ?_, fun x hx => ?_, hR.okG⟩, hT⟩
  · rw [cellsOf_append, List.length_append, List.length_singleton]
    have hcl : cellsOf entV [y] = y.cs.toList := by simp [cellsOf, entV, Value.cells]
    rw [hcl]
    refine own_turned O3 ((Turned.refl (fun k => k = r) w3).setCell (p := ⟨r, 0, none⟩) (fun _ => rfl) v3) (fun g hg e => ?_)
    subst e
    rcases hlt3 _ hg with h | h
    · exact own_blk_ne O2 B2 (by decide) h
    · have := B2.lt
      omega
  · refine own_turned Q2 hT (fun g hg e => ?_)
    rcases e with rfl | e
    · exact own_blk_ne Q2 B2 (by decide) hg
    · exact own_own_ne Q2 O2 (by decide) hg e
  · rcases List.mem_append.1 hx with hx | hx
    · exact hw (hR.who x hx)
    · rw [List.mem_singleton.1 hx]
      exact hw hy
  · rcases List.mem_append.1 hx with hx | hx
    · exact hR.set x hx
    · rw [List.mem_singleton.1 hx]
      exact hs
  · rcases List.mem_append.1 hx with hx | hx
    · exact hR.okE x hx
    · rw [List.mem_singleton.1 hx]
      exact hc
def Use19 (w : World) (base r : Nat) (room c seq : Int) (I : List TEnt) (G : List Int) (e : Ending) (w' : World) : Prop :=
  e = .returned (.int .i64 (useEr c seq I G)) ∧ RefT w' base r room (useE c seq I G) G ∧ Turned (UFoot base w) w w'
set_option maxRecDepth 100000 in
set_option maxHeartbeats 1000000 in
theorem use19_any (h : RefT w base r room I G) (hI : I.length ≤ 100000) (hG : G.length ≤ 100000) (seq : Int) :
    Calls Try.prog 33 #[.pointer (some ⟨r, 0, none⟩), .int .u16 c, .int .i64 seq] w (Use19 w base r room c seq I G) := by
  have CW := wrong19_any h (by omega) (by omega) c
  have HH := Lib.hid h
  unfold Use19 useEr useE
  rcases ho : openT c I G with _ | x
  · have b0 : (getEr c I G != 0) = true := by rw [bne_iff_ne]; exact (open_none ho).2
    simp only
    generalize getEr c I G = ge at CW b0 ⊢
    have DW := Lib.hid CW
    clear CW ho h
    go_enter Try.func33, Try.ntmps33
    go_wp2_with fail
    refine DW.out.mono ?_
    rintro e wx ⟨rfl, rfl⟩
    clear DW
    go_wp2_with fail
    go_ret
    exact ⟨rfl, HH.out, Turned.refl _ _⟩
  · obtain ⟨_, h2, h3, _, h5, h6⟩ := open_some ho
    simp only
    rw [h2] at CW
    have hf : foundT c I = some x := by
      unfold openT at ho
      rw [h3] at ho
      exact ho
    obtain ⟨i, hp⟩ : ∃ i, placeT c I = some i := by
      rcases hp : placeT c I with _ | i
      · rw [found_place hp] at hf
        cases hf
      · exact ⟨i, rfl⟩
    obtain ⟨y, hx1, hx2, hx3, hil⟩ := placeT_in hp
    have hyx : y = x := by
      have := find_place hp hx1
      unfold foundT at hf
      rw [hf] at this
      injection this with this
      exact this.symm
    subst hyx
    have CP := place19_any h (by omega) c
    rw [hp] at CP
    simp only [placeI] at CP
    have DP := Lib.hid CP
    have DW := Lib.hid CW
    have HD : Hid (dropE c I = I.eraseIdx i) := by show dropE c I = _; unfold dropE; rw [hp]
    obtain ⟨v, vo, hB, hO, hQ⟩ := h.row
    obtain ⟨Av, cv, rfl⟩ := own_slice hO
    have c0 : w.cell? ⟨r, 0, none⟩ = some (.slice Av I.length cv) := hB.cell 0
    have HR := ReadsT.of_own (V := entV) (fun _ => rfl) hO
    obtain ⟨b, o, rfl, hbl, hcell⟩ := HR i hil
    have hxe : I[i] = y := by rw [List.getElem?_eq_getElem hil] at hx1; injection hx1
    rw [hxe] at hcell
    have a0 : w.cell? ⟨b, o + i * 3, none⟩ = some (.int .u16 y.ch) := hcell 0 (by omega)
    have a1 : w.cell? ⟨b, o + i * 3 + 1, none⟩ = some (.slice y.A y.who.length y.c) := hcell 1 (by omega)
    have a2 : w.cell? ⟨b, o + i * 3 + 2, none⟩ = some (.int .i64 y.last) := hcell 2 (by omega)
    have k0 : (0 : Int) ≤ (i : Int) := by omega
    have k1 : (i : Int) < (I.length : Int) := by omega
    have HB := Lib.hid hB
    have HXM := Lib.hid hx2
    obtain ⟨i0, hi0, hz0, hz1, hz2⟩ := info_parts info_open19
    clear CP CW hp hx1 hx2 hx3 h2 h3 h5 h6 ho hf h hO hQ hB hcell hxe HR
    rw [HD.out]
    by_cases s0 : seq < 0
    · have d0 : decide (seq < 0) = true := by rw [decide_eq_true_eq]; exact s0
      rw [if_pos s0, if_pos s0]
      clear s0
      go_enter Try.func33, Try.ntmps33
      go_wp2_with fail
      refine DW.out.mono ?_
      rintro e wx ⟨rfl, rfl⟩
      clear DW
      go_wp2_with fail
      go_ret
      exact ⟨rfl, HH.out, Turned.refl _ _⟩
    · have d0 : decide (seq < 0) = false := by rw [decide_eq_false_iff_not]; exact s0
      rw [if_neg s0, if_neg s0]
      clear s0
      have hK3 : Kept w (w.alloc (.cells #[.int .u16 y.ch, .slice y.A y.who.length y.c, .int .i64 y.last] 74)) := (Turned.refl _ w).alloc _
      by_cases s1 : seq ≤ y.last
      · have d1 : decide (seq ≤ y.last) = true := by rw [decide_eq_true_eq]; exact s1
        rw [if_pos s1, if_pos s1]
        clear s1
        have HK3 := Lib.hid hK3
        clear hK3
        go_enter Try.func33, Try.ntmps33
        go_wp2_with fail
        refine DW.out.mono ?_
        rintro e wx ⟨rfl, rfl⟩
        clear DW
        go_wp2_with fail
        refine DP.out.mono ?_
        rintro e wx ⟨rfl, rfl⟩
        clear DP
        go_wp2_with fail
        go_ret
        exact ⟨rfl, HH.out.kept HK3.out, HK3.out.mono (fun _ _ h => h.elim)⟩
      · have d1 : decide (seq ≤ y.last) = false := by rw [decide_eq_false_iff_not]; exact s1
        rw [if_neg s1, if_neg s1]
        clear s1 hK3
        have hK3 : Kept w (w.alloc (.cells #[.int .u16 y.ch, .slice y.A y.who.length y.c, .int .i64 seq] 74)) := (Turned.refl _ w).alloc _
        have hX3 : Blk (w.alloc (.cells #[.int .u16 y.ch, .slice y.A y.who.length y.c, .int .i64 seq] 74)) w.heap.size 74 #[.int .u16 y.ch, .slice y.A y.who.length y.c, .int .i64 seq] := Blk.new w _ _
        have hR3 := HH.out.kept hK3
        have HRL : Hid (r < w.heap.size) := Lib.hid HH.out.lt
        have HK3 := Lib.hid hK3
        have HX3 := Lib.hid hX3
        have HR3 := Lib.hid hR3
        clear hK3 hX3 hR3
        go_enter Try.func33, Try.ntmps33
        go_wp2_with fail
        refine DW.out.mono ?_
        rintro e wx ⟨rfl, rfl⟩
        clear DW
        go_wp2_with fail
        refine DP.out.mono ?_
        rintro e wx ⟨rfl, rfl⟩
        clear DP
        go_wp2_with fail
        refine (HR3.out.without hil (by omega)).mono ?_
        rintro e w6 ⟨rfl, hR6, hT6, hfr6⟩
        have hgx : w.heap.size ≠ r := by have := HRL.out; omega
        have hX6 := HX3.out.turned hT6 hgx
        have hT06 : Turned (fun j => j = r) w w6 := (HK3.out.mono (fun _ _ h => h.elim)).then_ hT6 (fun _ _ h => h)
        have hI6 : (I.eraseIdx i).length ≤ 100000 := by rw [List.length_eraseIdx_of_lt hil]; omega
        have hW6 := own_turned (own_turned (HH.out.who y HXM.out) HK3.out (fun _ _ h => h)) hT6 (fun g hg e => by subst e; exact own_blk_ne (HH.out.who y HXM.out) HB.out (by decide) hg)
        obtain ⟨I2, hI2⟩ : ∃ I2, I2 = I.eraseIdx i := ⟨_, rfl⟩
        rw [← hI2] at hR6 hI6
        have HI2 := Lib.hid hI2
        clear hI2
        obtain ⟨v2, vo2, hB6, hO6, hQ6⟩ := hR6.row
        obtain ⟨A2, c2, rfl⟩ := own_slice hO6
        clear hT6 hfr6 c0 a0 a1 a2
        have q0 : w6.cell? ⟨w.heap.size, 0, none⟩ = some (.int .u16 y.ch) := hX6.cell 0
        have q1 : w6.cell? ⟨w.heap.size, 1, none⟩ = some (.slice y.A y.who.length y.c) := hX6.cell 1
        have q2 : w6.cell? ⟨w.heap.size, 2, none⟩ = some (.int .i64 seq) := hX6.cell 2
        have b0 : w6.cell? ⟨r, 0, none⟩ = some (.slice A2 I2.length c2) := hB6.cell 0
        have bf := hB6.frozen 0
        have hr6 := hB6.lt
        have hg6 := hX6.lt
        have hge := HH.out.ge
        generalize w.heap.size = gx at q0 q1 q2 hg6 ⊢
        go_wp2_with fail
        go_region_law (refine step_append_lies _ (by rfl) _ _ _ (by rfl) base 74 i0 _ 3 40 Try.underlying70 hi0 hz0 hz1 hz2 rfl (by omega) (.slice A2 I2.length c2) I2.length _ (by rfl) ((hO6.alloc _).drew) ⟨w6.heap.size, 0, none⟩ 1 1 [.int .u16 y.ch, .slice y.A y.who.length y.c, .int .i64 seq] (by rfl) (by rfl) (World.news_of_block (cs := #[.int .u16 y.ch, .slice y.A y.who.length y.c, .int .i64 seq]) (t := 74) (fr := (0, 0)) (heap_alloc_new w6 _)) (by simp [Value.oneCell']) (by omega) (by unfold maxLen; omega) (by omega) (by simp; omega) (w6.heap.size + 1) (by simp) ?_; intro gg cap w7 O7 hg7 hat hlt7; have B7 : Blk w7 r 72 _ := (hB6.alloc _).drew.grown hg7 (Ne.symm (own_blk_ne hO6 hB6 (by decide))); have e0 : w7.cell? ⟨r, 0, none⟩ = some (.slice A2 I2.length c2) := B7.cell 0; have e1 := B7.frozen 0)
        all_goals
          obtain ⟨hF, hTF⟩ := RefT.pushed (y := y.to seq) hR6 hB6 hO6 hQ6 ((((Turned.refl _ w6).alloc _).drew).grown hg7 (fun k h _ => h)) O7 (pushed_at hat) hW6 (HH.out.set y HXM.out) (HH.out.okE y HXM.out)
          have hTT : Turned (UFoot base w) w (w7.setCell ⟨r, 0, none⟩ (.slice (some ⟨gg, 0, none⟩) (I2.length + 1) cap)) := (hT06.mono (S' := UFoot base w) (fun i hi h => UFoot.of_row hT06 hge HB.out hO6 (.inl rfl) hB6 hi (.inl h))).then_ hTF (fun i hi h => UFoot.of_row hT06 hge HB.out hO6 (.inl rfl) hB6 hi h)
          go_wp2_with fail
          go_ret
          exact ⟨rfl, by rw [← HI2.out]; exact hF, hTT⟩
end
end Go.Proofs.Ytnicfiochnkjbaa
