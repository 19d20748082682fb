/- The channels' table: its order: drop, use, keys, get; Clone. -/
import Derived.Test.YtnicfiochnkjbaaT2
namespace Go.Proofs.Ytnicfiochnkjbaa
open Go.RowKit
/-- The table's own block and its row. -/
def TRow (base : Nat) (w : World) (k : Nat) : Prop := base ≤ k ∧ ∃ ty cs, Blk w k ty cs ∧ (ty = 110 ∨ ty = 126)
def dropE (c : Int) (E : List TEnt) : List TEnt := match placeT c E with
  | some i => E.eraseIdx i
  | none => E
section
variable {w w' W w3 : World} {base t mb : Nat} {room : Int} {E : List TEnt} {G : List Int} {c : Int}
theorem dropE_mem {x : TEnt} (h : x ∈ dropE c E) : x ∈ E := by
  unfold dropE at h
  split at h
  · exact List.mem_of_mem_eraseIdx h
  · exact h
theorem dropE_len : (dropE c E).length ≤ E.length := by
  unfold dropE
  split
  · exact List.length_eraseIdx_le _ _
  · exact Nat.le_refl _
/-- Another row in the table's place. -/
theorem TabIs.rowed {E' : List TEnt} {v' vo : Value} (h : TabIs w base t mb room E G) (B : Blk w t 110 #[.int .i64 room, vo, .map (some mb)]) (hO : W.ownsRow base 126 3 v' E'.length (cellsOf entV E')) {S : Nat → Prop} (hT : Turned S w W) (hS : ∀ k, k < w.heap.size → S k → ∃ cs, Blk w k 126 cs) (hv : v'.ownBlock ≠ some t) (hE : ∀ x ∈ E', x ∈ E) :
    TabIs (W.setCell ⟨t, 1, none⟩ v') base t mb room E' G ∧ Turned (fun k => k = t ∨ S k) w (W.setCell ⟨t, 1, none⟩ v') := by
  have hnt : ¬ S t := fun e => by
    obtain ⟨cs, hb⟩ := hS t B.lt e
    exact absurd rfl (Blk.ne_ hb B (by decide))
  have hTT : Turned (fun k => k = t ∨ S k) w (W.setCell ⟨t, 1, none⟩ v') := (hT.mono (S' := fun k => k = t ∨ S k) (fun _ _ h => .inr h)).setCell (p := ⟨t, 1, none⟩) (fun _ => .inl rfl) v'
  have hm : ¬ (mb = t ∨ S mb) := by
    rintro (e | e)
    · exact h.gone.blk_ne B e.symm
    · obtain ⟨cs, hb⟩ := hS mb h.lt.2 e
      exact h.gone.blk_ne hb rfl
  refine ⟨⟨h.ge, h.gm, ⟨v', (B.turned hT hnt).set_ 1 v', own_turned hO ((Turned.refl (fun k => k = t) W).setCell (p := ⟨t, 1, none⟩) (fun _ => rfl) v') (fun g hg e => hv (by rw [hg, e]))⟩, h.gone.turned hTT hm, fun x hx => ?_, fun x hx => h.set x (hE x hx), fun x hx => h.okE x (hE x hx), h.okG⟩, hTT⟩
  have hw := h.who x (hE x hx)
  refine own_turned hw hTT (fun g hg e => ?_)
  rcases e with e | e
  · subst e
    exact own_blk_ne hw B (by decide) hg
  · obtain ⟨cs, hb⟩ := hS g (own_lt hw hg) e
    exact own_blk_ne hw hb (by decide) hg
set_option maxRecDepth 100000 in
set_option maxHeartbeats 1000000 in
theorem odrop_any (h : TabIs w base t mb room E G) (hE : E.length ≤ 100000) (c : Int) :
    Calls Try.prog 71 #[.pointer (some ⟨t, 1, none⟩), .int .u16 c] w fun e w' => e = .returned (.tuple #[]) ∧ TabIs w' base t mb room (dropE c E) G ∧ Turned (TRow base w) w w' := by
  have CF := findT_any h (by omega) c
  have HH := Lib.hid h
  rcases hpl : placeT c E with _ | i
  · rw [hpl] at CF
    simp only [placeI] at CF
    have DF := Lib.hid CF
    have HD : Hid (dropE c E = E) := by show dropE c E = E; unfold dropE; rw [hpl]
    clear CF hpl h
    go_enter Try.func71, Try.ntmps71
    go_wp2_with fail
    refine DF.out.mono ?_
    rintro e w2 ⟨rfl, hK2⟩
    go_wp2_with fail
    go_end0
    exact ⟨rfl, by rw [HD.out]; exact HH.out.kept hK2, hK2.mono (fun _ _ h => h.elim)⟩
  · obtain ⟨x, hx1, hx2, hx3, hxl⟩ := placeT_in hpl
    rw [hpl] at CF
    simp only [placeI] at CF
    have DF := Lib.hid CF
    have HD : Hid (dropE c E = E.eraseIdx i) := by show dropE c E = _; unfold dropE; rw [hpl]
    obtain ⟨v, hB, hO⟩ := h.row
    obtain ⟨Av, cv, rfl⟩ := own_slice hO
    obtain ⟨g, hA, _⟩ := own_at hO hxl
    subst hA
    have i0' : (0 : Int) ≤ (i : Int) := by omega
    have hob : (Value.slice (some ⟨g, 0, none⟩) E.length cv).ownBlock = some g := by simp [Value.ownBlock]
    obtain ⟨hgb, cs, hgB⟩ := own_blk hO hob
    have HGB := Lib.hid hgB
    have HB := Lib.hid hB
    have HO := Lib.hid hO
    clear CF hpl h hx1 hx2 hx3 hO hB hgB
    go_enter Try.func71, Try.ntmps71
    go_wp2_with fail
    refine DF.out.mono ?_
    rintro e w2 ⟨rfl, hK2⟩
    clear DF
    have hB2 := HB.out.turned hK2 (fun h => h)
    have c1 : w2.cell? ⟨t, 1, none⟩ = some (.slice (some ⟨g, 0, none⟩) E.length cv) := hB2.cell 1
    have DD := Lib.hid (del_any (own_turned HO.out hK2 (fun _ _ h => h)) hxl (by omega))
    have HL2 := Lib.hid hB2
    clear hB2
    go_wp2_with fail
    refine DD.out.mono ?_
    rintro e w3 ⟨rfl, hO3, hT3⟩
    have hgt : t ≠ g := fun e => by subst e; exact absurd rfl (Blk.ne_ HGB.out HB.out (by decide))
    have hB3 := HL2.out.turned hT3 hgt
    have d1 : w3.cell? ⟨t, 1, none⟩ = some (.slice (some ⟨g, 0, none⟩) E.length cv) := hB3.cell 1
    have f1 := hB3.frozen 1
    clear DD c1
    go_wp2_with fail
    go_end0
    have hT03 : Turned (fun k => k = g) w w3 := (hK2.mono (fun _ _ h => h.elim)).then_ hT3 (fun _ _ h => h)
    obtain ⟨r1, r2⟩ := HH.out.rowed HB.out hO3 hT03 (fun k _ hk => ⟨cs, by rw [hk]; exact HGB.out⟩) (by simp [Value.ownBlock]; omega) (fun x hx => List.mem_of_mem_eraseIdx hx)
    refine ⟨rfl, by rw [HD.out]; exact r1, r2.mono (fun k _ hk => ?_)⟩
    rcases hk with hk | hk
    · rw [hk]
      exact ⟨HH.out.ge, _, _, HB.out, .inl rfl⟩
    · rw [hk]
      exact ⟨hgb, _, cs, HGB.out, .inr rfl⟩
end
end Go.Proofs.Ytnicfiochnkjbaa
