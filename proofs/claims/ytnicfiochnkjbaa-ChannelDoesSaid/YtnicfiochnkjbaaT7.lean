/- The channels' table: New, Last, Who, All, Close, Use. -/
import Derived.Test.YtnicfiochnkjbaaT6
namespace Go.Proofs.Ytnicfiochnkjbaa
open Go.RowKit
def foundT (c : Int) (E : List TEnt) : Option TEnt := E.find? (fun x => x.ch == c)
def openT (c : Int) (E : List TEnt) (G : List Int) : Option TEnt := if goneB c G then none else foundT c E
def lastT (c : Int) (E : List TEnt) (G : List Int) : Int := match openT c E G with
  | some x => x.last
  | none => -1
def whoT (c : Int) (E : List TEnt) (G : List Int) : List ByteArray := match openT c E G with
  | some x => x.who
  | none => []
section
variable {w w' W w3 : World} {base t mb : Nat} {room : Int} {E : List TEnt} {G : List Int} {c : Int}
theorem open_some {x : TEnt} (h : openT c E G = some x) : getSt c E G = stC x.A x.who.length x.c x.last ∧ getEr c E G = 0 ∧ goneB c G = false ∧ c ∉ G ∧ x ∈ E ∧ x.ch = c := by
  unfold openT at h
  rcases hg : goneB c G with _ | _
  · rw [hg] at h
    have h' : foundT c E = some x := h
    unfold foundT at h'
    refine ⟨?_, ?_, rfl, fun hm => ?_, List.mem_of_find?_eq_some h', by simpa using List.find?_some h'⟩
    · unfold getSt stOf
      rw [hg, h']
      rfl
    · unfold getEr isIn
      rw [hg, h']
      rfl
    · unfold goneB at hg
      rw [decide_eq_true hm] at hg
      cases hg
  · rw [hg] at h
    cases h
theorem open_none (h : openT c E G = none) : getSt c E G = stC none 0 0 0 ∧ getEr c E G ≠ 0 := by
  unfold openT at h
  rcases hg : goneB c G with _ | _
  · rw [hg] at h
    have h' : foundT c E = none := h
    unfold foundT at h'
    constructor
    · unfold getSt stOf
      rw [hg, h']
      rfl
    · unfold getEr isIn
      rw [hg, h']
      simp
  · constructor
    · unfold getSt
      rw [hg]
      rfl
    · unfold getEr
      rw [hg]
      simp
/-- What New tells. -/
def NewT (room : Int) (w : World) (e : Ending) (w' : World) : Prop :=
  ((room < 1 ∨ 50 < room) ∧ e = .returned (.pointer none) ∧ w = w') ∨ (1 ≤ room ∧ room ≤ 50) ∧ ∃ t mb, e = .returned (.pointer (some ⟨t, 0, none⟩)) ∧ (∀ base, base ≤ w.heap.size → TabIs w' base t mb room [] []) ∧ Kept w w' ∧ w.heap.size ≤ t ∧ w.heap.size ≤ mb
set_option maxRecDepth 100000 in
theorem new_table (room : Int) (w : World) (_hr : i64 room) : Calls Try.prog 28 #[.int .i64 room] w (NewT room w) := by
  by_cases h1 : 1 ≤ room
  · have d1 : decide (room < 1) = false := by rw [decide_eq_false_iff_not]; omega
    by_cases h2 : room ≤ 50
    · have d2 : decide (50 < room) = false := by rw [decide_eq_false_iff_not]; omega
      have hmm := @run_makeMap Try.prog
      have HC : Hid (∀ base, base ≤ w.heap.size → TabIs ((w.alloc (.map #[] 0)).alloc (.cells #[.int .i64 room, .slice none 0 0, .map (some w.heap.size)] 110)) base (w.heap.size + 1) w.heap.size room [] []) := fun base hb => by
        have hB := Blk.new (w.alloc (.map #[] 0)) 110 #[.int .i64 room, .slice none 0 0, .map (some w.heap.size)]
        rw [World.size_alloc] at hB
        exact ⟨by omega, hb, ⟨_, hB, ⟨by simp [cellsOf], .inl ⟨rfl, rfl⟩⟩⟩, (MapAt.new w _ _).alloc _, fun x hx => (by cases hx), fun x hx => (by cases hx), fun x hx => (by cases hx), fun x hx => (by cases hx)⟩
      have HK : Hid (Kept w ((w.alloc (.map #[] 0)).alloc (.cells #[.int .i64 room, .slice none 0 0, .map (some w.heap.size)] 110))) := Lib.hid (((Turned.refl _ w).alloc _).alloc _)
      go_enter Try.func28, Try.ntmps28
      go_wp2_with fail
      go_ret
      exact .inr ⟨⟨h1, h2⟩, _, _, rfl, HC.out, HK.out, by omega, Nat.le_refl _⟩
    · have d2 : decide (50 < room) = true := by rw [decide_eq_true_eq]; omega
      go_enter Try.func28, Try.ntmps28
      go_wp2_with fail
      go_ret
      exact .inl ⟨.inr (by omega), rfl, rfl⟩
  · have d1 : decide (room < 1) = true := by rw [decide_eq_true_eq]; omega
    go_enter Try.func28, Try.ntmps28
    go_wp2_with fail
    go_ret
    exact .inl ⟨.inl (by omega), rfl, rfl⟩
set_option maxRecDepth 100000 in
theorem all_table (h : TabIs w base t mb room E G) (hE : E.length ≤ 100000) :
    Calls Try.prog 35 #[.pointer (some ⟨t, 0, none⟩)] w fun e w' => ∃ A c, e = .returned (.slice A E.length c) ∧ w'.ownsRow w.heap.size 56 1 (.slice A E.length c) E.length (E.map chV) ∧ Kept w w' := by
  have DK := Lib.hid (keys_any h hE)
  clear h
  go_enter Try.func35, Try.ntmps35
  go_wp2_with fail
  refine DK.out.mono ?_
  rintro e w2 ⟨A, c, rfl, h1, h2⟩
  clear DK
  go_wp2_with fail
  go_ret
  exact ⟨_, _, rfl, h1, h2⟩
set_option maxRecDepth 100000 in
theorem last_table (h : TabIs w base t mb room E G) (hE : E.length ≤ 100000) (hc : u16 c) :
    Calls Try.prog 39 #[.pointer (some ⟨t, 0, none⟩), .int .u16 c] w fun e w' => e = .returned (.int .i64 (lastT c E G)) ∧ Kept w w' := by
  have CG := get_table h hE hc
  rcases ho : openT c E G with _ | x
  · obtain ⟨h1, h2⟩ := open_none ho
    have HL : Hid (lastT c E G = -1) := by show lastT c E G = -1; unfold lastT; rw [ho]
    rw [h1] at CG
    unfold stC at CG
    have d : (getEr c E G != 0) = true := by rw [bne_iff_ne]; exact h2
    generalize getEr c E G = er at CG d
    have DG := Lib.hid CG
    clear CG h1 h2 ho h
    go_enter Try.func39, Try.ntmps39
    go_wp2_with fail
    refine DG.out.mono ?_
    rintro e w2 ⟨rfl, hK2⟩
    clear DG
    go_wp2_with fail
    go_ret
    exact ⟨by rw [HL.out]; rfl, hK2.alloc _⟩
  · obtain ⟨h1, h2, _⟩ := open_some ho
    have HL : Hid (lastT c E G = x.last) := by show lastT c E G = _; unfold lastT; rw [ho]
    rw [h1, h2] at CG
    unfold stC at CG
    have DG := Lib.hid CG
    clear CG h1 h2 ho h
    go_enter Try.func39, Try.ntmps39
    go_wp2_with fail
    refine DG.out.mono ?_
    rintro e w2 ⟨rfl, hK2⟩
    clear DG
    go_wp2_with fail
    go_ret
    exact ⟨by rw [HL.out]; rfl, hK2.alloc _⟩
set_option maxRecDepth 100000 in
theorem who_table (h : TabIs w base t mb room E G) (hE : E.length ≤ 100000) (hc : u16 c) :
    Calls Try.prog 36 #[.pointer (some ⟨t, 0, none⟩), .int .u16 c] w fun e w' => ∃ A' c', e = .returned (.tuple #[.slice A' (whoT c E G).length c', .int .i64 (getEr c E G)]) ∧ w'.ownsRow w.heap.size 51 1 (.slice A' (whoT c E G).length c') (whoT c E G).length ((whoT c E G).map Value.string) ∧ Kept w w' := by
  have CG := get_table h hE hc
  rcases ho : openT c E G with _ | x
  · obtain ⟨h1, h2⟩ := open_none ho
    have HL : Hid (whoT c E G = []) := by show whoT c E G = []; unfold whoT; rw [ho]
    rw [h1] at CG
    unfold stC at CG
    generalize getEr c E G = er at CG
    have DG := Lib.hid CG
    clear CG h1 h2 ho h
    go_enter Try.func36, Try.ntmps36
    go_wp2_with fail
    refine DG.out.mono ?_
    rintro e w2 ⟨rfl, hK2⟩
    clear DG
    go_wp2_with fail
    refine (clone_nil _).mono ?_
    rintro e w3 ⟨rfl, rfl⟩
    go_wp2_with fail
    go_ret2
    rw [HL.out]
    exact ⟨none, 0, rfl, ⟨rfl, .inl ⟨rfl, rfl⟩⟩, hK2.alloc _⟩
  · obtain ⟨h1, h2, _, _, hx, _⟩ := open_some ho
    have HL : Hid (whoT c E G = x.who) := by show whoT c E G = _; unfold whoT; rw [ho]
    have hsp := setR_parts (h.set x hx)
    have hrd := h.reads hx
    obtain ⟨b, o, hA⟩ : ∃ b o, x.A = some ⟨b, o, none⟩ := by
      obtain ⟨b, o, hA, _⟩ := hrd 0 (by omega)
      exact ⟨b, o, hA⟩
    have hwl : x.who.length ≤ 16 := hsp.2.1
    have HRD := Lib.hid hrd
    rw [h1, h2, hA] at CG
    unfold stC at CG
    have DG := Lib.hid CG
    have HE2 := Lib.hid h2
    rw [hA] at HRD
    clear CG h1 h2 ho h hrd hsp hA
    go_enter Try.func36, Try.ntmps36
    go_wp2_with fail
    refine DG.out.mono ?_
    rintro e w2 ⟨rfl, hK2⟩
    clear DG
    have hK3 : Kept w (w2.alloc (.cells #[.slice (some ⟨b, o, none⟩) x.who.length x.c, .int .i64 x.last] 113)) := hK2.alloc _
    have DC := Lib.hid (clone_any ⟨b, o, none⟩ x.c x.who _ (by omega) (HRD.out.kept hK3))
    have hsz := hK3.size
    go_wp2_with fail
    refine DC.out.mono ?_
    rintro e w4 ⟨A', c', rfl, hO4, hK4⟩
    clear DC
    go_wp2_with fail
    go_ret2
    rw [HL.out, HE2.out]
    exact ⟨_, _, rfl, own_weaken hO4 hsz, hK3.to hK4⟩
set_option maxRecDepth 100000 in
theorem close_table (h : TabIs w base t mb room E G) (hE : E.length ≤ 100000) (hc : u16 c) :
    Calls Try.prog 52 #[.pointer (some ⟨t, 0, none⟩), .int .u16 c] w fun e w' => e = .returned (.int .i64 (getEr c E G)) ∧ TabIs w' base t mb room (if (openT c E G).isSome then dropE c E else E) (if (openT c E G).isSome then G ++ [c] else G) ∧ Turned (TFoot base mb w) w w' := by
  have CG := get_table h hE hc
  have HH := Lib.hid h
  have hlt := h.lt
  rcases ho : openT c E G with _ | x
  · obtain ⟨h1, h2⟩ := open_none ho
    rw [h1] at CG
    unfold stC at CG
    have d : (getEr c E G != 0) = true := by rw [bne_iff_ne]; exact h2
    generalize getEr c E G = er at CG d
    have DG := Lib.hid CG
    clear CG h1 h2 ho h
    go_enter Try.func52, Try.ntmps52
    go_wp2_with fail
    refine DG.out.mono ?_
    rintro e w2 ⟨rfl, hK2⟩
    clear DG
    go_wp2_with fail
    go_ret
    exact ⟨rfl, HH.out.kept (hK2.alloc _), (hK2.alloc _).mono (fun _ _ h => h.elim)⟩
  · obtain ⟨h1, h2, _, hng, hx, _⟩ := open_some ho
    rw [h1, h2] at CG
    unfold stC at CG
    have DG := Lib.hid CG
    have HE2 := Lib.hid h2
    clear CG h1 h2 ho h
    go_enter Try.func52, Try.ntmps52
    go_wp2_with fail
    refine DG.out.mono ?_
    rintro e w2 ⟨rfl, hK2⟩
    clear DG
    have hK3 : Kept w (w2.alloc (.cells #[.slice x.A x.who.length x.c, .int .i64 x.last] 113)) := hK2.alloc _
    have DD := Lib.hid (drop_table (HH.out.kept hK3) hE hc hng)
    go_wp2_with fail
    refine DD.out.mono ?_
    rintro e w4 ⟨rfl, h4, hT4⟩
    clear DD
    go_wp2_with fail
    go_ret
    refine ⟨by rw [HE2.out]; rfl, h4, (hK3.mono (fun _ _ h => h.elim)).then_ hT4 (fun k hk h => ?_)⟩
    rcases h with h | ⟨h1, ty, cs, hb, ht⟩
    · exact .inl h
    · refine .inr ⟨h1, ty, cs, ?_, ht⟩
      unfold Blk at hb ⊢
      rw [← hK3.block k hk (fun h => h)]
      exact hb
end
end Go.Proofs.Ytnicfiochnkjbaa
