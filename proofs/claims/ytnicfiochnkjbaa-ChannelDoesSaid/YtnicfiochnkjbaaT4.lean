/- The channels' table: its order: use, keys, get; Clone. -/
import Derived.Test.YtnicfiochnkjbaaT3
namespace Go.Proofs.Ytnicfiochnkjbaa
open Go.RowKit
theorem info_atomz : (Try.prog.info? 56).map (fun i => (i.zero, i.size, i.bytes)) = some (some (.int .u16 0), 1, 2) := by kernel_rfl
theorem info_state : (Try.prog.info? 113).map (·.size) = some 2 := by kernel_rfl
section
variable {w w' W w3 : World} {base t mb : Nat} {room : Int} {E : List TEnt} {G : List Int} {c : Int}
/-- One more behind the last. -/
theorem TabIs.pushed {v2 v3 : Value} {y : TEnt} (h : TabIs W base t mb room E G) (B2 : Blk W t 110 #[.int .i64 room, v2, .map (some mb)]) (O2 : W.ownsRow base 126 3 v2 E.length (cellsOf entV E))
    (hg3 : (W.alloc (.cells y.cs 126)).drew.grownBy w3 v2.ownBlock) (O3 : w3.ownsRow base 126 3 v3 (E.length + 1) (cellsOf entV E ++ y.cs.toList)) (hlt3 : ∀ g, v3.ownBlock = some g → v2.ownBlock = some g ∨ W.heap.size ≤ g)
    (hy : W.ownsRow base 51 1 (.slice y.A y.who.length y.c) y.who.length (y.who.map Value.string)) (hs : setR y.who = true) (hc : u16 y.ch) :
    TabIs (w3.setCell ⟨t, 1, none⟩ v3) base t mb room (E ++ [y]) G ∧ Turned (fun k => k = t ∨ v2.ownBlock = some k) W (w3.setCell ⟨t, 1, none⟩ v3) := by
  have hT3 : Turned (fun k => v2.ownBlock = some k) W w3 := (((Turned.refl _ W).alloc _).drew).grown hg3 (fun k h _ => h)
  have hT : Turned (fun k => k = t ∨ v2.ownBlock = some k) W (w3.setCell ⟨t, 1, none⟩ v3) := (hT3.mono (S' := fun k => k = t ∨ v2.ownBlock = some k) (fun i _ h => .inr h)).setCell (p := ⟨t, 1, none⟩) (fun _ => .inl rfl) _
  have B3 : Blk w3 t 110 #[.int .i64 room, v2, .map (some mb)] := B2.turned hT3 (own_blk_ne O2 B2 (by decide))
  have hw : ∀ {x : TEnt}, W.ownsRow base 51 1 (.slice x.A x.who.length x.c) x.who.length (x.who.map Value.string) → (w3.setCell ⟨t, 1, none⟩ v3).ownsRow base 51 1 (.slice x.A x.who.length x.c) x.who.length (x.who.map Value.string) := fun {x} hx =>
    own_turned hx hT (fun g hg e => by
      rcases e with rfl | e
      · exact own_blk_ne hx B2 (by decide) hg
      · exact own_own_ne hx O2 (by decide) hg e)
  refine ⟨⟨h.ge, h.gm, ⟨v3, B3.set_ 1 v3, ?_⟩, h.gone.turned hT ?_, fun x hx => ?_, fun x hx => ?_, fun x hx => ?_, h.okG⟩, hT⟩
  · rw [cellsOf_append, List.length_append, List.length_singleton]
    have hcl : cellsOf entV [y] = y.cs.toList := by simp [cellsOf, entV, Value.cells]
    rw [hcl]
    refine own_turned O3 ((Turned.refl (fun k => k = t) w3).setCell (p := ⟨t, 1, none⟩) (fun _ => rfl) v3) (fun g hg e => ?_)
    subst e
    rcases hlt3 _ hg with h | h
    · exact own_blk_ne O2 B2 (by decide) h
    · have := B2.lt
      omega
  · rintro (e | e)
    · exact h.gone.blk_ne B2 e.symm
    · exact h.gone.own_ne O2 e
  · rcases List.mem_append.1 hx with hx | hx
    · exact hw (h.who x hx)
    · rw [List.mem_singleton.1 hx]
      exact hw hy
  · rcases List.mem_append.1 hx with hx | hx
    · exact h.set x hx
    · rw [List.mem_singleton.1 hx]
      exact hs
  · rcases List.mem_append.1 hx with hx | hx
    · exact h.okE x hx
    · rw [List.mem_singleton.1 hx]
      exact hc
/-- A row that may be written at W is one that might be at w. -/
theorem TRow.back {k : Nat} (hT : Turned (TRow base w) w W) (h : TRow base W k) (hk : k < w.heap.size) : TRow base w k := by
  by_cases hr : TRow base w k
  · exact hr
  · obtain ⟨h1, ty, cs, h2, h3⟩ := h
    refine ⟨h1, ty, cs, ?_, h3⟩
    unfold Blk at h2 ⊢
    rw [← hT.block k hk hr]
    exact h2
theorem TabIs.trow (h : TabIs W base t mb room E G) {v2 : Value} (B2 : Blk W t 110 #[.int .i64 room, v2, .map (some mb)]) (O2 : W.ownsRow base 126 3 v2 E.length (cellsOf entV E)) {k : Nat} (hk : k = t ∨ v2.ownBlock = some k) : TRow base W k := by
  rcases hk with rfl | hk
  · exact ⟨h.ge, _, _, B2, .inl rfl⟩
  · obtain ⟨g1, cs, g2⟩ := own_blk O2 hk
    exact ⟨g1, _, cs, g2, .inr rfl⟩
set_option maxRecDepth 100000 in
set_option maxHeartbeats 2000000 in
theorem ouse_any (h : TabIs w base t mb room E G) (hE : E.length ≤ 100000) (y : TEnt) (hy : w.ownsRow base 51 1 (.slice y.A y.who.length y.c) y.who.length (y.who.map Value.string)) (hs : setR y.who = true) (hc : u16 y.ch) :
    Calls Try.prog 64 #[.pointer (some ⟨t, 1, none⟩), .int .u16 y.ch, .agg #[.slice y.A y.who.length y.c, .int .i64 y.last]] w fun e w' => e = .returned (.tuple #[]) ∧ TabIs w' base t mb room (dropE y.ch E ++ [y]) G ∧ Turned (TRow base w) w w' := by
  obtain ⟨i0, hi0, hz0, hz1, hz2⟩ := info_parts info_ent
  have HK0 : Hid (Kept w (w.alloc (.cells #[.slice y.A y.who.length y.c, .int .i64 y.last] 113))) := Lib.hid ((Turned.refl _ w).alloc _)
  have HP : Hid (Blk (w.alloc (.cells #[.slice y.A y.who.length y.c, .int .i64 y.last] 113)) w.heap.size 113 #[.slice y.A y.who.length y.c, .int .i64 y.last]) := Lib.hid (Blk.new w _ _)
  have DD := Lib.hid (odrop_any (h.kept HK0.out) hE y.ch)
  have HY := Lib.hid (own_turned hy HK0.out (fun _ _ h => h))
  have hlt := h.lt.1
  have hge := h.ge
  have HH := Lib.hid (h.kept HK0.out)
  clear h hy
  go_enter Try.func64, Try.ntmps64
  go_wp2_with fail
  refine DD.out.mono ?_
  rintro e W ⟨rfl, hW, hT2⟩
  clear DD
  generalize w.alloc (.cells #[.slice y.A y.who.length y.c, .int .i64 y.last] 113) = w1 at HK0 HP hT2 HY HH
  obtain ⟨gp, hgp⟩ : ∃ gp, gp = w.heap.size := ⟨_, rfl⟩
  rw [← hgp] at HP
  rw [← hgp]
  have HGP := Lib.hid hgp
  clear hgp
  have hnP : ∀ {k ty cs}, Blk w1 k ty cs → (ty = 113 ∨ ty = 51) → ¬ TRow base w1 k := fun {k ty cs} hb ht ⟨_, t', cs', hb', ht'⟩ => by
    unfold Blk at hb hb'
    rw [hb] at hb'
    injection hb' with hb'
    injection hb' with _ he
    subst he
    rcases ht with rfl | rfl <;> rcases ht' with h | h <;> revert h <;> decide
  have hP2 := HP.out.turned hT2 (hnP HP.out (.inl rfl))
  have hY2 := own_turned HY.out hT2 (fun g hg => by obtain ⟨_, cs, hb⟩ := own_blk HY.out hg; exact hnP hb (.inr rfl))
  have hl2 : (dropE y.ch E).length ≤ 100000 := Nat.le_trans dropE_len hE
  clear hnP
  generalize hE2 : dropE y.ch E = E2 at hW hl2
  have HE2 := Lib.hid hE2
  clear hE2
  obtain ⟨v2, hB2, hO2⟩ := hW.row
  obtain ⟨A2, c2, rfl⟩ := own_slice hO2
  have q0 : W.cell? ⟨gp, 0, none⟩ = some (.slice y.A y.who.length y.c) := hP2.cell 0
  have q1 : W.cell? ⟨gp, 1, none⟩ = some (.int .i64 y.last) := hP2.cell 1
  have b0 : W.cell? ⟨t, 1, none⟩ = some (.slice A2 E2.length c2) := hB2.cell 1
  have bf := hB2.frozen 1
  have hr6 := hB2.lt
  have hg6 := hP2.lt
  have hbW : base ≤ W.heap.size := by omega
  go_wp2_with fail
  go_region_law (refine step_append_lies _ (by rfl) _ _ _ (by rfl) base 126 i0 _ 3 40 Try.underlying106 hi0 hz0 hz1 hz2 rfl (by omega) (.slice A2 E2.length c2) E2.length _ (by rfl) ((hO2.alloc _).drew) ⟨W.heap.size, 0, none⟩ 1 1 [.int .u16 y.ch, .slice y.A y.who.length y.c, .int .i64 y.last] (by rfl) (by rfl) (World.news_of_block (cs := #[.int .u16 y.ch, .slice y.A y.who.length y.c, .int .i64 y.last]) (t := 126) (fr := (0, 0)) (heap_alloc_new W _)) (by simp [Value.oneCell']) (by omega) (by unfold maxLen; omega) (by omega) (by simp; omega) (W.heap.size + 1) (by simp) ?_; intro gg cap w7 O7 hg7 hat hlt7; have B7 : Blk w7 t 110 _ := (hB2.alloc _).drew.grown hg7 (Ne.symm (own_blk_ne hO2 hB2 (by decide))); have e0 : w7.cell? ⟨t, 1, none⟩ = some (.slice A2 E2.length c2) := B7.cell 1; have e1 := B7.frozen 1)
  all_goals
    obtain ⟨hF, hTF⟩ := TabIs.pushed (y := y) hW hB2 hO2 hg7 O7 (pushed_at hat) hY2 hs hc
    go_end0
    refine ⟨rfl, by rw [HE2.out]; exact hF, ?_⟩
    have hT1 : Turned (TRow base w1) w1 (w7.setCell ⟨t, 1, none⟩ (.slice (some ⟨gg, 0, none⟩) (E2.length + 1) cap)) := hT2.then_ hTF (fun k hk h => TRow.back hT2 (hW.trow hB2 hO2 h) hk)
    refine (HK0.out.mono (fun _ _ h => h.elim)).then_ hT1 (fun k hk h => ?_)
    obtain ⟨h1, ty, cs, h2, h3⟩ := h
    refine ⟨h1, ty, cs, ?_, h3⟩
    unfold Blk at h2 ⊢
    rw [← HK0.out.block k hk (fun h => h)]
    exact h2
end
end Go.Proofs.Ytnicfiochnkjbaa
