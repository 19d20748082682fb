/- The channels' table: what it holds; find. -/
import Derived.Test.YtnicfiochnkjbaaTX
import Derived.Deep.DeepCutAuto
namespace Go.Proofs.Ytnicfiochnkjbaa
open Go.RowKit
open Go.Maps (Keyed)
/-- A channel that is open; its set as a cell holds it. -/
structure TEnt where
  ch : Int
  A : Option Addr
  c : Nat
  who : List ByteArray
  last : Int
def TEnt.cs (x : TEnt) : Array Value := #[.int .u16 x.ch, .slice x.A x.who.length x.c, .int .i64 x.last]
def entV (x : TEnt) : Value := .agg x.cs
theorem entV_one : ∀ x : TEnt, ∀ u ∈ (entV x).cells.toList, u.oneCell' = true := fun x u hu => by
  simp only [entV, TEnt.cs, Value.cells, List.mem_cons, List.not_mem_nil, or_false] at hu
  rcases hu with rfl | rfl | rfl <;> rfl
theorem info_ent : (Try.prog.info? 126).map (fun i => (i.zero, i.size, i.bytes)) = some (some (.agg #[.int .u16 0, .slice none 0 0, .int .i64 0]), 3, 40) := by kernel_rfl
def TEnt.ownB (x : TEnt) : Option Nat := (Value.slice x.A x.who.length x.c).ownBlock
def goneP (c : Int) : Value × Value := (.int .u16 c, .agg #[])
structure TabIs (W : World) (base t mb : Nat) (room : Int) (E : List TEnt) (G : List Int) : Prop where
  ge : base ≤ t
  gm : base ≤ mb
  row : ∃ v, Blk W t 110 #[.int .i64 room, v, .map (some mb)] ∧ W.ownsRow base 126 3 v E.length (cellsOf entV E)
  gone : MapAt W Try.prog 56 mb (G.map goneP)
  who : ∀ x ∈ E, W.ownsRow base 51 1 (.slice x.A x.who.length x.c) x.who.length (x.who.map Value.string)
  set : ∀ x ∈ E, setR x.who = true
  okE : ∀ x ∈ E, u16 x.ch
  okG : ∀ c ∈ G, u16 c
/-- What a table may write of what there was. -/
def TFoot (base mb : Nat) (w : World) (k : Nat) : Prop := k = mb ∨ base ≤ k ∧ ∃ t cs, Blk w k t cs ∧ (t = 110 ∨ t = 126)
section
variable {w w' : World} {base t mb : Nat} {room : Int} {E : List TEnt} {G : List Int}
theorem TFoot.not {ty : TypeId} {cs : Array Value} {k : Nat} (h : Blk w k ty cs) (h1 : ty ≠ 110) (h2 : ty ≠ 126) (h3 : k ≠ mb) : ¬ TFoot base mb w k := by
  rintro (h | ⟨_, t', cs', hb, ht⟩)
  · exact h3 h
  · have he : ty = t' := by
      unfold Blk at h hb
      rw [h] at hb
      injection hb with hb
      injection hb
    subst he
    rcases ht with ht | ht
    · exact h1 ht
    · exact h2 ht
theorem TabIs.lt (h : TabIs w base t mb room E G) : t < w.heap.size ∧ mb < w.heap.size := by
  obtain ⟨v, hB, _⟩ := h.row
  exact ⟨hB.lt, h.gone.lt⟩
theorem TabIs.beside {S : Nat → Prop} (h : TabIs w base t mb room E G) (hT : Turned S w w') (h1 : ∀ k ty cs, base ≤ k → Blk w k ty cs → (ty = 110 ∨ ty = 126) → ¬ S k) (h2 : ∀ x ∈ E, ∀ g cs, x.ownB = some g → base ≤ g → Blk w g 51 cs → ¬ S g) (h3 : ¬ S mb) : TabIs w' base t mb room E G := by
  obtain ⟨v, hB, hO⟩ := h.row
  refine ⟨h.ge, h.gm, ⟨v, hB.turned hT (h1 t _ _ h.ge hB (.inl rfl)), own_turned hO hT (fun g hg => ?_)⟩, h.gone.turned hT h3, fun x hx => own_turned (h.who x hx) hT (fun g hg => ?_), h.set, h.okE, h.okG⟩
  · obtain ⟨g1, cs, g2⟩ := own_blk hO hg
    exact h1 g _ cs g1 g2 (.inr rfl)
  · obtain ⟨g1, cs, g2⟩ := own_blk (h.who x hx) hg
    exact h2 x hx g cs hg g1 g2
theorem TabIs.kept (h : TabIs w base t mb room E G) (hK : Kept w w') : TabIs w' base t mb room E G := h.beside hK (fun _ _ _ _ _ _ h => h) (fun _ _ _ _ _ _ _ h => h) (fun h => h)
theorem TabIs.newer (h : TabIs w base t mb room E G) {S : Nat → Prop} (hT : Turned S w w') (hS : ∀ k, S k → w.heap.size ≤ k) : TabIs w' base t mb room E G :=
  h.beside hT (fun k _ _ _ hb _ e => by have := hb.lt; have := hS k e; omega) (fun _ _ g _ _ _ hb e => by have := hb.lt; have := hS g e; omega) (fun e => by have := h.lt.2; have := hS _ e; omega)
theorem TabIs.reads (h : TabIs w base t mb room E G) {x : TEnt} (hx : x ∈ E) : ReadsT Value.string w w.heap.size 1 x.A x.who := ReadsT.of_one (V := Value.string) (fun _ => rfl) (h.who x hx)
end
/-- The place of a channel. -/
def placeT (c : Int) (E : List TEnt) : Option Nat := E.findIdx? (fun x => x.ch == c)
theorem placeT_some {c : Int} {E : List TEnt} {j : Nat} {x : TEnt} (hx : E[j]? = some x) (hq : (x.ch == c) = true) (hno : ∀ i y, i < j → E[i]? = some y → (y.ch == c) = false) : placeT c E = some j := by
  unfold placeT
  rw [List.findIdx?_eq_some_iff_getElem]
  obtain ⟨hj, rfl⟩ := List.getElem?_eq_some_iff.1 hx
  refine ⟨hj, hq, fun i hi => ?_⟩
  have := hno i _ hi (List.getElem?_eq_getElem (by omega))
  simp [this]
theorem placeT_none {c : Int} {E : List TEnt} (hno : ∀ i y, i < E.length → E[i]? = some y → (y.ch == c) = false) : placeT c E = none := by
  unfold placeT
  rw [List.findIdx?_eq_none_iff]
  intro x hx
  obtain ⟨i, hi, rfl⟩ := List.getElem_of_mem hx
  exact hno i _ hi (List.getElem?_eq_getElem hi)
theorem placeT_in {c : Int} {E : List TEnt} {i : Nat} (h : placeT c E = some i) : ∃ x, E[i]? = some x ∧ x ∈ E ∧ x.ch = c ∧ i < E.length := by
  unfold placeT at h
  obtain ⟨hi, h1, _⟩ := List.findIdx?_eq_some_iff_getElem.1 h
  exact ⟨E[i], List.getElem?_eq_getElem hi, List.getElem_mem hi, by simpa using h1, hi⟩

set_option maxRecDepth 100000 in
theorem same_any (c ch last : Int) (A : Option Addr) (n cp g : Nat) (w : World) (hg : w.cell? ⟨g, 0, none⟩ = some (.int .u16 c)) (hl : g < w.heap.size) :
    Calls Try.prog 70 #[.agg #[.int .u16 ch, .slice A n cp, .int .i64 last], .pointer (some ⟨g, 0, none⟩)] w fun e w' => e = .returned (.bool (ch == c)) ∧ Kept w w' := by
  have HK : Hid (Kept w (w.alloc (.cells #[.int .u16 ch, .slice A n cp, .int .i64 last] 126))) := Lib.hid ((Turned.refl _ w).alloc _)
  go_enter Try.func70, Try.ntmps70
  go_wp2_with fail
  go_ret
  exact ⟨rfl, HK.out⟩
set_option maxRecDepth 100000 in
set_option maxHeartbeats 1000000 in
theorem idx_any (c : Int) (gp : Nat) (Av : Option Addr) (cv : Nat) (E : List TEnt) (w : World) (hE : E.length ≤ 1000000) (hr : ReadsT entV w w.heap.size 3 Av E) (hg : w.cell? ⟨gp, 0, none⟩ = some (.int .u16 c)) (hl : gp < w.heap.size) :
    Calls Try.prog 69 #[.slice Av E.length cv, .func (.func 70) #[] #[.pointer (some ⟨gp, 0, none⟩)]] w fun e w' => e = .returned (.int .i64 (placeI (placeT c E))) ∧ Kept w w' := by
  have HR := Lib.hid hr
  have HG := Lib.hid hg
  clear hr hg
  go_enter Try.func69, Try.ntmps69
  go_wp2_with fail
  go_loopg [8] E.length (fun gk i wr => ∃ j : Nat, j + gk = E.length ∧ i = .int .i64 j ∧ Kept w wr ∧ ∀ i y, i < j → E[i]? = some y → (y.ch == c) = false)
  case atStart => exact ⟨0, Nat.zero_add _, rfl, Turned.refl _ _, fun i y hi => by omega⟩
  case round =>
    obtain ⟨j, hj, rfl, hK, hno⟩ := hrel
    have HNO := Lib.hid hno
    clear hno
    by_cases hjl : j < E.length
    · obtain ⟨b, o, rfl, hbl, hcell⟩ := HR.out j hjl
      obtain ⟨x, hxe⟩ : ∃ x, x = E[j] := ⟨_, rfl⟩
      have HX : Hid (E[j]? = some x) := Lib.hid (by rw [hxe]; exact List.getElem?_eq_getElem hjl)
      rw [← hxe] at hcell
      have hcl := fun i hi => (hK.cell (p := ⟨b, o + j * 3 + i, none⟩) hbl (fun h => h)).trans (hcell i hi)
      have c0 : wr.cell? ⟨b, o + j * 3, none⟩ = some (.int .u16 x.ch) := hcl 0 (by omega)
      have c1 : wr.cell? ⟨b, o + j * 3 + 1, none⟩ = some (.slice x.A x.who.length x.c) := hcl 1 (by omega)
      have c2 : wr.cell? ⟨b, o + j * 3 + 2, none⟩ = some (.int .i64 x.last) := hcl 2 (by omega)
      have CS := same_any c x.ch x.last x.A x.who.length x.c gp wr ((hK.cell (p := ⟨gp, 0, none⟩) hl (fun h => h)).trans HG.out) (Nat.lt_of_lt_of_le hl hK.size)
      have i0 : (0 : Int) ≤ (j : Int) := by omega
      have i1 : (j : Int) < (E.length : Int) := by omega
      clear hxe hcell hcl
      rcases hq : (x.ch == c) with _ | _
      all_goals
        rw [hq] at CS
        have DS := Lib.hid CS
        have HQ := Lib.hid hq
        have HJ := Lib.hid hj
        clear hq CS hj
        go_wp2_with fail
        refine DS.out.mono ?_
        rintro e w8 ⟨rfl, hk8⟩
        have hK8 := hK.to hk8
        clear DS
        go_wp2_with fail
      · go_roundg (gk - 1)
        case measure => have := HJ.out; omega
        case rel =>
          refine ⟨j + 1, by have := HJ.out; omega, by go_num, hK8, fun i y hi hy => ?_⟩
          by_cases hij : i = j
          · subst hij
            have h1 := HX.out
            rw [hy] at h1
            injection h1 with h1
            rw [h1]
            exact HQ.out
          · exact HNO.out i y (by omega) hy
      · go_ret
        exact ⟨by rw [placeT_some HX.out HQ.out HNO.out]; rfl, hK8⟩
    · have i1 : ¬ (j : Int) < (E.length : Int) := by omega
      go_wp2_with fail
      go_ret
      exact ⟨by rw [placeT_none (fun i y hi hy => HNO.out i y (by omega) hy)]; rfl, hK⟩
set_option maxRecDepth 100000 in
theorem findT_any {w : World} {base t mb : Nat} {room : Int} {E : List TEnt} {G : List Int} (h : TabIs w base t mb room E G) (hE : E.length ≤ 1000000) (c : Int) :
    Calls Try.prog 62 #[.pointer (some ⟨t, 1, none⟩), .int .u16 c] w fun e w' => e = .returned (.int .i64 (placeI (placeT c E))) ∧ Kept w w' := by
  obtain ⟨v, hB, hO⟩ := h.row
  obtain ⟨Av, cv, rfl⟩ := own_slice hO
  have hl := hB.lt
  have c1 : w.cell? ⟨t, 1, none⟩ = some (.slice Av E.length cv) := hB.cell 1
  have HK0 : Hid (Kept w (w.alloc (.cells #[.int .u16 c] 56))) := Lib.hid ((Turned.refl _ w).alloc _)
  have HI := Lib.hid (idx_any c w.heap.size Av cv E (w.alloc (.cells #[.int .u16 c] 56)) hE ((ReadsT.of_own (V := entV) (fun _ => rfl) hO).kept HK0.out) ((Blk.new w 56 #[.int .u16 c]).cell 0) (by simp))
  clear hO hB h
  go_enter Try.func62, Try.ntmps62
  go_wp2_with fail
  refine HI.out.mono ?_
  rintro e w2 ⟨rfl, hK2⟩
  clear HI
  go_wp2_with fail
  go_ret
  exact ⟨rfl, HK0.out.to hK2⟩
end Go.Proofs.Ytnicfiochnkjbaa
