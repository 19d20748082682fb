/- The channels' table: Use. -/
import Derived.Test.YtnicfiochnkjbaaT7
import Derived.Test.YtnicfiochnkjbaaHeld
namespace Go.Proofs.Ytnicfiochnkjbaa
open Go.RowKit
def TEnt.to (x : TEnt) (seq : Int) : TEnt := ⟨x.ch, x.A, x.c, x.who, seq⟩
def useEr (c seq : Int) (E : List TEnt) (G : List Int) : Int := match openT c E G with
  | some x => if seq < 0 then 5 else if seq ≤ x.last then 14 else 0
  | none => getEr c E G
def useE (c seq : Int) (E : List TEnt) (G : List Int) : List TEnt := match openT c E G with
  | some x => if seq < 0 then E else if seq ≤ x.last then E else dropE c E ++ [x.to seq]
  | none => E
section
variable {w w' W w3 : World} {base t mb : Nat} {room : Int} {E : List TEnt} {G : List Int} {c : Int}
theorem TRow.not {ty : TypeId} {cs : Array Value} {k : Nat} (h : Blk w k ty cs) (h1 : ty ≠ 110) (h2 : ty ≠ 126) : ¬ TRow base w k := fun ⟨_, t', cs', hb, ht⟩ => by
  have he : ty = t' := by
    unfold Blk at h hb
    rw [h] at hb
    injection hb with hb
    injection hb
  subst he
  rcases ht with ht | ht
  · exact h1 ht
  · exact h2 ht
theorem TRow.since (hK : Kept w W) {k : Nat} (hk : k < w.heap.size) (h : TRow base W k) : TRow base w k := by
  obtain ⟨h1, ty, cs, hb, ht⟩ := h
  refine ⟨h1, ty, cs, ?_, ht⟩
  unfold Blk at hb ⊢
  rw [← hK.block k hk (fun h => h)]
  exact hb
set_option maxRecDepth 100000 in
set_option maxHeartbeats 1000000 in
theorem use_table (h : TabIs w base t mb room E G) (hE : E.length ≤ 100000) (hc : u16 c) (seq : Int) :
    Calls Try.prog 51 #[.pointer (some ⟨t, 0, none⟩), .int .u16 c, .int .i64 seq] w fun e w' => e = .returned (.int .i64 (useEr c seq E G)) ∧ TabIs w' base t mb room (useE c seq E G) G ∧ Turned (TFoot base mb w) w w' := by
  have CG := get_table h hE hc
  have HH := Lib.hid h
  have hlt := h.lt
  rcases ho : openT c E G with _ | x
  · obtain ⟨h1, h2⟩ := open_none ho
    have HU : Hid (useEr c seq E G = getEr c E G ∧ useE c seq E G = E) := by
      show useEr c seq E G = _ ∧ useE c seq E G = _
      unfold useEr useE
      rw [ho]
      exact ⟨rfl, rfl⟩
    rw [h1] at CG
    unfold stC at CG
    have d : (getEr c E G != 0) = true := by rw [bne_iff_ne]; exact h2
    generalize getEr c E G = er at CG d HU
    have DG := Lib.hid CG
    clear CG h1 h2 ho h
    go_enter Try.func51, Try.ntmps51
    go_wp2_with fail
    refine DG.out.mono ?_
    rintro e w2 ⟨rfl, hK2⟩
    clear DG
    go_wp2_with fail
    go_ret
    exact ⟨by rw [HU.out.1]; rfl, by rw [HU.out.2]; exact HH.out.kept (hK2.alloc _), (hK2.alloc _).mono (fun _ _ h => h.elim)⟩
  · obtain ⟨h1, h2, _, hng, hx, hxc⟩ := open_some ho
    rw [h1, h2] at CG
    unfold stC at CG
    have DG := Lib.hid CG
    by_cases hs0 : seq < 0
    · have HU : Hid (useEr c seq E G = 5 ∧ useE c seq E G = E) := by
        show useEr c seq E G = _ ∧ useE c seq E G = _
        unfold useEr useE
        rw [ho]
        simp only [hs0, if_true]
        exact ⟨trivial, trivial⟩
      have d0 : decide (seq < 0) = true := by simpa using hs0
      clear CG h1 h2 ho h hs0
      go_enter Try.func51, Try.ntmps51
      go_wp2_with fail
      refine DG.out.mono ?_
      rintro e w2 ⟨rfl, hK2⟩
      clear DG
      go_wp2_with fail
      go_ret
      exact ⟨by rw [HU.out.1]; rfl, by rw [HU.out.2]; exact HH.out.kept (hK2.alloc _), (hK2.alloc _).mono (fun _ _ h => h.elim)⟩
    · have d0 : decide (seq < 0) = false := by simpa using hs0
      by_cases hs1 : seq ≤ x.last
      · have HU : Hid (useEr c seq E G = 14 ∧ useE c seq E G = E) := by
          show useEr c seq E G = _ ∧ useE c seq E G = _
          unfold useEr useE
          rw [ho]
          simp only [hs0, hs1, if_true, if_false]
          exact ⟨trivial, trivial⟩
        have d1 : decide (seq ≤ x.last) = true := by simpa using hs1
        clear CG h1 h2 ho h hs0 hs1
        go_enter Try.func51, Try.ntmps51
        go_wp2_with fail
        refine DG.out.mono ?_
        rintro e w2 ⟨rfl, hK2⟩
        clear DG
        go_wp2_with fail
        go_ret
        exact ⟨by rw [HU.out.1]; rfl, by rw [HU.out.2]; exact HH.out.kept (hK2.alloc _), (hK2.alloc _).mono (fun _ _ h => h.elim)⟩
      · have HU : Hid (useEr c seq E G = 0 ∧ useE c seq E G = dropE c E ++ [x.to seq]) := by
          show useEr c seq E G = _ ∧ useE c seq E G = _
          unfold useEr useE
          rw [ho]
          simp only [hs0, hs1, if_false]
          exact ⟨trivial, trivial⟩
        have d1 : decide (seq ≤ x.last) = false := by simpa using hs1
        have HS := Lib.hid (h.set x hx)
        have HW := Lib.hid (h.who x hx)
        have HXC := Lib.hid hxc
        clear CG h1 h2 ho h hs0 hs1 hx hxc
        go_enter Try.func51, Try.ntmps51
        go_wp2_with fail
        refine DG.out.mono ?_
        rintro e w2 ⟨rfl, hK2⟩
        clear DG
        have hK3 : Kept w (w2.alloc (.cells #[.slice x.A x.who.length x.c, .int .i64 seq] 113)) := hK2.alloc _
        have hK3d := hK3.drew
        have hS3 : Blk (w2.alloc (.cells #[.slice x.A x.who.length x.c, .int .i64 seq] 113)).drew w2.heap.size 113 #[.slice x.A x.who.length x.c, .int .i64 seq] := Blk.new w2 _ _
        have CU := ouse_any (HH.out.kept hK3d) hE (x.to seq) (own_turned HW.out hK3d (fun _ _ h => h)) HS.out (by show u16 x.ch; rw [HXC.out]; exact hc)
        rw [show (x.to seq).ch = c from HXC.out] at CU
        have DU := Lib.hid CU
        clear CU
        go_wp2_with fail
        refine wp_region_held_drew (S := fun W => W.cell? ⟨w2.heap.size, 0, none⟩ = some (.slice x.A x.who.length x.c) ∧ W.cell? ⟨w2.heap.size, 1, none⟩ = some (.int .i64 seq)) (by kernel_rfl) ⟨hS3.cell 0, hS3.cell 1⟩ (fun hHeld => ?_)
        refine held_take 0 29 (v := ?_) ⟨_, rfl, rfl, by rfl, ?_⟩ (by kernel_rfl) (by kernel_rfl) (by kernel_rfl) (fun _ _ _ h => h) hHeld ?_
        rotate_left
        · (intro w hSw; (try dsimp only at hSw); go_simp; try with_reducible rfl)
        simp only [Act.put, List.setIfInBounds_toArray, List.set_cons_zero, List.set_cons_succ]
        refine held_take 1 30 (v := ?_) ⟨_, rfl, rfl, by rfl, ?_⟩ (by kernel_rfl) (by kernel_rfl) (by kernel_rfl) (fun _ _ _ h => h) hHeld ?_
        rotate_left
        · (intro w hSw; (try dsimp only at hSw); go_simp; try with_reducible rfl)
        simp only [Act.put, List.setIfInBounds_toArray, List.set_cons_zero, List.set_cons_succ]
        refine held_take 2 31 (v := ?_) ⟨_, rfl, rfl, by rfl, ?_⟩ (by kernel_rfl) (by kernel_rfl) (by kernel_rfl) (fun _ _ _ h => h) hHeld ?_
        rotate_left
        · (intro w hSw; (try dsimp only at hSw); go_simp; try with_reducible rfl)
        simp only [Act.put, List.setIfInBounds_toArray, List.set_cons_zero, List.set_cons_succ]
        refine held_take 3 32 (v := ?_) ⟨_, rfl, rfl, by rfl, ?_⟩ (by kernel_rfl) (by kernel_rfl) (by kernel_rfl) (fun _ _ _ h => h) hHeld ?_
        rotate_left
        · (intro w hSw; (try dsimp only at hSw); go_simp; try with_reducible rfl)
        simp only [Act.put, List.setIfInBounds_toArray, List.set_cons_zero, List.set_cons_succ]
        refine held_take 4 33 (v := ?_) ⟨_, rfl, rfl, by rfl, ?_⟩ (by kernel_rfl) (by kernel_rfl) (by kernel_rfl) (fun _ _ _ h => h) hHeld ?_
        rotate_left
        · (intro w hSw; (try dsimp only at hSw); go_simp; try with_reducible rfl)
        simp only [Act.put, List.setIfInBounds_toArray, List.set_cons_zero, List.set_cons_succ]
        refine wpAnyH_ready (rs := [5]) (by kernel_rfl) (by simp) ?_
        refine AllReadyH.cons (o := _) rfl (fun K hK => ?_) AllReadyH.nil
        go_simp
        go_at_call 64
        refine DU.out.mono ?_
        rintro e w4 ⟨rfl, h4, hT4⟩
        go_wp2_with fail
        have hS4 := hS3.turned hT4 (TRow.not hS3 (by decide) (by decide))
        refine hK.out _ _ (by exact ⟨hS4.cell 0, hS4.cell 1⟩) (fun hHeld => ?_)
        clear hK K
        refine wpAnyH_done (by kernel_rfl) ?_ _
        go_wp2_with fail
        go_ret
        refine ⟨by rw [HU.out.1]; rfl, by rw [HU.out.2]; exact h4, (hK3d.mono (fun _ _ h => h.elim)).then_ hT4 (fun k hk h => .inr (TRow.since hK3d hk h))⟩
end
end Go.Proofs.Ytnicfiochnkjbaa
