/- The document's table of channels: what it holds; what it tells. -/
import Derived.Test.YtnicfiochnkjbaaT13
namespace Go.Proofs.Ytnicfiochnkjbaa
open Go.RowKit
/-- What the document's table holds. -/
structure RefT (W : World) (base r : Nat) (room : Int) (I : List TEnt) (G : List Int) : Prop where
  ge : base ≤ r
  row : ∃ v vo, Blk W r 72 #[v, vo, .int .i64 room] ∧ W.ownsRow base 74 3 v I.length (cellsOf entV I) ∧ W.ownsRow base 56 1 vo G.length (G.map atV)
  who : ∀ x ∈ I, W.ownsRow base 51 1 (.slice x.A x.who.length x.c) x.who.length (x.who.map Value.string)
  set : ∀ x ∈ I, setR x.who = true
  okE : ∀ x ∈ I, u16 x.ch
  okG : ∀ c ∈ G, u16 c
theorem info_open19 : (Try.prog.info? 74).map (fun i => (i.zero, i.size, i.bytes)) = some (some (.agg #[.int .u16 0, .slice none 0 0, .int .i64 0]), 3, 40) := by kernel_rfl
/-- What the document's table may write of what there was. -/
def UFoot (base : Nat) (w : World) (k : Nat) : Prop := base ≤ k ∧ ∃ t cs, Blk w k t cs ∧ (t = 72 ∨ t = 74 ∨ t = 56)
section
variable {w w' W : World} {base r : Nat} {room c : Int} {I : List TEnt} {G : List Int}
theorem UFoot.not {t : TypeId} {cs : Array Value} {k : Nat} (h : Blk w k t cs) (h1 : t ≠ 72) (h2 : t ≠ 74) (h3 : t ≠ 56) : ¬ UFoot base w k := fun ⟨_, t', cs', hb, ht⟩ => by
  have he : t = t' := by
    unfold Blk at h hb
    rw [h] at hb
    injection hb with hb
    injection hb
  subst he
  rcases ht with ht | ht | ht
  · exact h1 ht
  · exact h2 ht
  · exact h3 ht
theorem RefT.lt (h : RefT w base r room I G) : r < w.heap.size := by
  obtain ⟨v, vo, hB, _⟩ := h.row
  exact hB.lt
theorem RefT.beside {S : Nat → Prop} (h : RefT w base r room I G) (hT : Turned S w w') (h1 : ∀ k t cs, base ≤ k → Blk w k t cs → (t = 72 ∨ t = 74 ∨ t = 56) → ¬ S k) (h2 : ∀ x ∈ I, ∀ g cs, x.ownB = some g → base ≤ g → Blk w g 51 cs → ¬ S g) : RefT w' base r room I G := by
  obtain ⟨v, vo, hB, hO, hQ⟩ := h.row
  refine ⟨h.ge, ⟨v, vo, hB.turned hT (h1 r _ _ h.ge hB (.inl rfl)), own_turned hO hT (fun g hg => ?_), own_turned hQ hT (fun g hg => ?_)⟩, fun x hx => own_turned (h.who x hx) hT (fun g hg => ?_), h.set, h.okE, h.okG⟩
  · obtain ⟨g1, cs, g2⟩ := own_blk hO hg
    exact h1 g _ cs g1 g2 (.inr (.inl rfl))
  · obtain ⟨g1, cs, g2⟩ := own_blk hQ hg
    exact h1 g _ cs g1 g2 (.inr (.inr rfl))
  · obtain ⟨g1, cs, g2⟩ := own_blk (h.who x hx) hg
    exact h2 x hx g cs hg g1 g2
theorem RefT.kept (h : RefT w base r room I G) (hK : Kept w w') : RefT w' base r room I G := h.beside hK (fun _ _ _ _ _ _ h => h) (fun _ _ _ _ _ _ _ h => h)
theorem RefT.newer (h : RefT w base r room I G) {S : Nat → Prop} (hT : Turned S w w') (hS : ∀ k, S k → w.heap.size ≤ k) : RefT w' base r room I G :=
  h.beside hT (fun k _ _ _ hb _ e => by have := hb.lt; have := hS k e; omega) (fun _ _ g _ _ _ hb e => by have := hb.lt; have := hS g e; omega)
theorem RefT.reads (h : RefT w base r room I G) {x : TEnt} (hx : x ∈ I) : ReadsT Value.string w w.heap.size 1 x.A x.who := ReadsT.of_one (V := Value.string) (fun _ => rfl) (h.who x hx)
set_option maxRecDepth 100000 in
theorem gone19_any (h : RefT w base r room I G) (hG : G.length ≤ 1000000) (c : Int) :
    Calls Try.prog 42 #[.pointer (some ⟨r, 0, none⟩), .int .u16 c] w fun e w' => e = .returned (.bool (goneB c G)) ∧ w = w' := by
  obtain ⟨v, vo, hB, hO, hQ⟩ := h.row
  obtain ⟨Ao, co, rfl⟩ := own_slice hQ
  have c1 : w.cell? ⟨r, 1, none⟩ = some (.slice Ao G.length co) := hB.cell 1
  have HR := Lib.hid (ReadsT.of_one (V := atV) (fun _ => rfl) hQ)
  clear h hB hO hQ
  go_enter Try.func42, Try.ntmps42
  go_wp2_with fail
  go_loopg [5] G.length (fun gk i wr => ∃ j : Nat, j + gk = G.length ∧ i = .int .i64 j ∧ w = wr ∧ c ∉ G.take j)
  case atStart => exact ⟨0, Nat.zero_add _, rfl, rfl, by simp⟩
  case round =>
    obtain ⟨j, hj, rfl, rfl, hno⟩ := hrel
    have HNO := Lib.hid hno
    clear hno
    by_cases hjl : j < G.length
    · obtain ⟨b, o, rfl, hbl, hcell⟩ := ReadsT.cell_one (V := atV) (fun _ => rfl) HR.out hjl
      obtain ⟨x, hxe⟩ : ∃ x, x = G[j] := ⟨_, rfl⟩
      have hxm : x ∈ G := by rw [hxe]; exact List.getElem_mem hjl
      have HT : Hid (G.take (j + 1) = G.take j ++ [x]) := by show G.take (j + 1) = _; rw [List.take_succ_eq_append_getElem hjl, hxe]
      rw [← hxe] at hcell
      unfold atV at hcell
      have i0 : (0 : Int) ≤ (j : Int) := by omega
      have i1 : (j : Int) < (G.length : Int) := by omega
      clear hxe
      by_cases hq : x = c
      · have b0 : (x == c) = true := by simpa using hq
        have HM : Hid (goneB c G = true) := by show goneB c G = true; unfold goneB; rw [← hq]; exact decide_eq_true hxm
        clear hq hxm
        go_wp2_with fail
        go_ret
        exact ⟨by rw [HM.out]; rfl, rfl⟩
      · have b0 : (x == c) = false := by simpa using hq
        have HN2 : Hid (c ∉ G.take (j + 1)) := by
          show c ∉ G.take (j + 1)
          rw [HT.out]
          intro hm
          rcases List.mem_append.1 hm with hm | hm
          · exact HNO.out hm
          · exact hq (List.mem_singleton.1 hm).symm
        clear hq hxm
        go_wp2_with fail
        go_roundg (gk - 1)
        case measure => omega
        case rel => exact ⟨j + 1, by omega, by go_num, rfl, HN2.out⟩
    · have i1 : ¬ (j : Int) < (G.length : Int) := by omega
      have HM : Hid (goneB c G = false) := by
        show goneB c G = false
        unfold goneB
        have := HNO.out
        rw [List.take_of_length_le (by omega)] at this
        exact decide_eq_false this
      go_wp2_with fail
      go_ret
      exact ⟨by rw [HM.out]; rfl, rfl⟩
set_option maxRecDepth 100000 in
theorem place19_any (h : RefT w base r room I G) (hI : I.length ≤ 1000000) (c : Int) :
    Calls Try.prog 53 #[.pointer (some ⟨r, 0, none⟩), .int .u16 c] w fun e w' => e = .returned (.int .i64 (placeI (placeT c I))) ∧ w = w' := by
  obtain ⟨v, vo, hB, hO, hQ⟩ := h.row
  obtain ⟨Av, cv, rfl⟩ := own_slice hO
  have c0 : w.cell? ⟨r, 0, none⟩ = some (.slice Av I.length cv) := hB.cell 0
  have HR := Lib.hid (ReadsT.of_own (V := entV) (fun _ => rfl) hO)
  clear h hB hO hQ
  go_enter Try.func53, Try.ntmps53
  go_wp2_with fail
  go_loopg [5] I.length (fun gk i wr => ∃ j : Nat, j + gk = I.length ∧ i = .int .i64 j ∧ w = wr ∧ ∀ i y, i < j → I[i]? = some y → (y.ch == c) = false)
  case atStart => exact ⟨0, Nat.zero_add _, rfl, rfl, fun i y hi => by omega⟩
  case round =>
    obtain ⟨j, hj, rfl, rfl, hno⟩ := hrel
    have HNO := Lib.hid hno
    clear hno
    by_cases hjl : j < I.length
    · obtain ⟨b, o, rfl, hbl, hcell⟩ := HR.out j hjl
      obtain ⟨x, hxe⟩ : ∃ x, x = I[j] := ⟨_, rfl⟩
      have HX : Hid (I[j]? = some x) := Lib.hid (by rw [hxe]; exact List.getElem?_eq_getElem hjl)
      rw [← hxe] at hcell
      have a0 : w.cell? ⟨b, o + j * 3, none⟩ = some (.int .u16 x.ch) := hcell 0 (by omega)
      have i0 : (0 : Int) ≤ (j : Int) := by omega
      have i1 : (j : Int) < (I.length : Int) := by omega
      clear hxe hcell
      rcases hq : (x.ch == c) with _ | _
      · have HQ := Lib.hid hq
        go_wp2_with fail
        go_roundg (gk - 1)
        case measure => omega
        case rel =>
          refine ⟨j + 1, by omega, by go_num, rfl, fun i y hi hy => ?_⟩
          by_cases hij : i = j
          · subst hij
            have h1 := HX.out
            rw [hy] at h1
            injection h1 with h1
            rw [h1]
            exact HQ.out
          · exact HNO.out i y (by omega) hy
      · have HQ := Lib.hid hq
        go_wp2_with fail
        go_ret
        exact ⟨by rw [placeT_some HX.out HQ.out HNO.out]; rfl, rfl⟩
    · have i1 : ¬ (j : Int) < (I.length : Int) := by omega
      go_wp2_with fail
      go_ret
      exact ⟨by rw [placeT_none (fun i y hi hy => HNO.out i y (by omega) hy)]; rfl, rfl⟩
theorem isIn_place (c : Int) (I : List TEnt) : isIn c I = (placeT c I).isSome := by
  unfold isIn
  rcases hp : placeT c I with _ | i
  · rw [find_noplace hp]; rfl
  · obtain ⟨x, hx, _⟩ := placeT_in hp
    rw [find_place hp hx]; rfl
set_option maxRecDepth 100000 in
theorem wrong19_any (h : RefT w base r room I G) (hI : I.length ≤ 1000000) (hG : G.length ≤ 1000000) (c : Int) :
    Calls Try.prog 54 #[.pointer (some ⟨r, 0, none⟩), .int .u16 c] w fun e w' => e = .returned (.int .i64 (getEr c I G)) ∧ w = w' := by
  have DG := Lib.hid (gone19_any h hG c)
  have DP := Lib.hid (place19_any h hI c)
  have HE : Hid (getEr c I G = if goneB c G then 21 else if (placeT c I).isSome then 0 else 10) := by show getEr c I G = _; unfold getEr; rw [isIn_place]
  generalize getEr c I G = ge at HE ⊢
  clear h
  go_enter Try.func54, Try.ntmps54
  go_wp2_with fail
  refine DG.out.mono ?_
  rintro e wx ⟨rfl, rfl⟩
  clear DG
  rcases hg : goneB c G with _ | _
  · rw [hg] at HE
    go_wp2_with fail
    refine DP.out.mono ?_
    rintro e wx ⟨rfl, rfl⟩
    clear DP
    rcases hp : placeT c I with _ | i
    · rw [hp] at HE
      simp only [placeI]
      go_wp2_with fail
      go_ret
      exact ⟨by rw [HE.out]; rfl, rfl⟩
    · rw [hp] at HE
      simp only [placeI]
      have i0 : decide ((i : Int) < 0) = false := by rw [decide_eq_false_iff_not]; omega
      go_wp2_with fail
      go_ret
      exact ⟨by rw [HE.out]; rfl, rfl⟩
  · rw [hg] at HE
    clear DP
    go_wp2_with fail
    go_ret
    exact ⟨by rw [HE.out]; rfl, rfl⟩
def last19 (c : Int) (I : List TEnt) : Int := match foundT c I with
  | some x => x.last
  | none => -1
set_option maxRecDepth 100000 in
theorem last19_any (h : RefT w base r room I G) (hI : I.length ≤ 1000000) (c : Int) :
    Calls Try.prog 40 #[.pointer (some ⟨r, 0, none⟩), .int .u16 c] w fun e w' => e = .returned (.int .i64 (last19 c I)) ∧ w = w' := by
  have CP := place19_any h hI c
  obtain ⟨v, vo, hB, hO, hQ⟩ := h.row
  obtain ⟨Av, cv, rfl⟩ := own_slice hO
  have c0 : w.cell? ⟨r, 0, none⟩ = some (.slice Av I.length cv) := hB.cell 0
  have HR := Lib.hid (ReadsT.of_own (V := entV) (fun _ => rfl) hO)
  clear h hB hO hQ
  rcases hp : placeT c I with _ | i
  · rw [hp] at CP
    simp only [placeI] at CP
    have DP := Lib.hid CP
    have HL : Hid (last19 c I = -1) := by show last19 c I = -1; unfold last19; rw [found_place hp]
    generalize last19 c I = lv at HL ⊢
    clear CP hp
    go_enter Try.func40, Try.ntmps40
    go_wp2_with fail
    refine DP.out.mono ?_
    rintro e wx ⟨rfl, rfl⟩
    go_wp2_with fail
    go_ret
    exact ⟨by rw [HL.out]; rfl, rfl⟩
  · rw [hp] at CP
    simp only [placeI] at CP
    have DP := Lib.hid CP
    obtain ⟨x, hx1, hx2, hx3, hil⟩ := placeT_in hp
    have HL : Hid (last19 c I = x.last) := by show last19 c I = x.last; unfold last19 foundT; rw [find_place hp hx1]
    generalize last19 c I = lv at HL ⊢
    obtain ⟨b, o, rfl, hbl, hcell⟩ := HR.out i hil
    have hxe : I[i] = x := by rw [List.getElem?_eq_getElem hil] at hx1; injection hx1
    rw [hxe] at hcell
    have a2 : w.cell? ⟨b, o + i * 3 + 2, none⟩ = some (.int .i64 x.last) := hcell 2 (by omega)
    have i0 : (0 : Int) ≤ (i : Int) := by omega
    have i1 : (i : Int) < (I.length : Int) := by omega
    have i2 : decide ((i : Int) < 0) = false := by rw [decide_eq_false_iff_not]; omega
    clear CP hp hcell hxe hx1 hx2 hx3
    go_enter Try.func40, Try.ntmps40
    go_wp2_with fail
    refine DP.out.mono ?_
    rintro e wx ⟨rfl, rfl⟩
    go_wp2_with fail
    go_ret
    exact ⟨by rw [HL.out]; rfl, rfl⟩
/-- What Who tells. -/
def who19 (c : Int) (I : List TEnt) (G : List Int) : Value := match openT c I G with
  | some x => .slice x.A x.who.length x.c
  | none => .slice none 0 0
end
end Go.Proofs.Ytnicfiochnkjbaa
