/- The document's cache: its state; find. -/
import Derived.Test.YtnicfiochnkjbaaR1
namespace Go.Proofs.Ytnicfiochnkjbaa
open Go.RowKit

theorem own_blk {w : World} {base e size n g : Nat} {v : Value} {xs : List Value} (h : w.ownsRow base e size v n xs) (hg : v.ownBlock = some g) : base ≤ g ∧ ∃ cs, Blk w g e cs := by
  rcases h.2 with ⟨rfl, _⟩ | ⟨g', cap, cur, rfl, hb, hh, _⟩
  · simp [Value.ownBlock] at hg
  · have : g' = g := by simpa [Value.ownBlock] using hg
    subst this
    exact ⟨hb, _, hh⟩
structure RefIs (W : World) (base r : Nat) (room : Int) (I : List RItem) : Prop where
  ge : base ≤ r
  row : ∃ v, Blk W r 50 #[v, .int .i64 room] ∧ W.ownsRow base 104 7 v I.length (cellsOf itemV I)
  who : ∀ x ∈ I, W.ownsRow base 51 1 (.slice x.A x.q.who.length x.c) x.q.who.length (x.q.who.map Value.string)
  set : ∀ x ∈ I, setR x.q.who = true
def RItem.ownB (x : RItem) : Option Nat := (Value.slice x.A x.q.who.length x.c).ownBlock
/-- What the document's cache may write of what there was. -/
def RFoot (base : Nat) (w : World) (k : Nat) : Prop := base ≤ k ∧ ∃ t cs, Blk w k t cs ∧ (t = 50 ∨ t = 104)
section
variable {w w' : World} {base r : Nat} {room : Int} {I : List RItem}
theorem RFoot.not {t : TypeId} {cs : Array Value} {k : Nat} (h : Blk w k t cs) (h1 : t ≠ 50) (h2 : t ≠ 104) : ¬ RFoot base w k := fun ⟨_, t', cs', hb, ht⟩ => by
  have he : t = t' := by
    unfold Blk at h hb
    rw [h] at hb
    injection hb with hb
    injection hb
  subst he
  rcases ht with ht | ht
  · exact h1 ht
  · exact h2 ht
theorem RefIs.lt (h : RefIs w base r room I) : r < w.heap.size := by
  obtain ⟨v, hB, _⟩ := h.row
  exact hB.lt
theorem RefIs.beside {S : Nat → Prop} (h : RefIs w base r room I) (hT : Turned S w w') (h1 : ∀ k t cs, base ≤ k → Blk w k t cs → (t = 50 ∨ t = 104) → ¬ S k) (h2 : ∀ x ∈ I, ∀ g cs, x.ownB = some g → base ≤ g → Blk w g 51 cs → ¬ S g) : RefIs w' base r room I := by
  obtain ⟨v, hB, hO⟩ := h.row
  refine ⟨h.ge, ⟨v, hB.turned hT (h1 r _ _ h.ge hB (.inl rfl)), own_turned hO hT (fun g hg => ?_)⟩, fun x hx => own_turned (h.who x hx) hT (fun g hg => ?_), h.set⟩
  · obtain ⟨g1, cs, g2⟩ := own_blk hO hg
    exact h1 g _ cs g1 g2 (.inr rfl)
  · obtain ⟨g1, cs, g2⟩ := own_blk (h.who x hx) hg
    exact h2 x hx g cs hg g1 g2
theorem RefIs.kept (h : RefIs w base r room I) (hK : Kept w w') : RefIs w' base r room I := h.beside hK (fun _ _ _ _ _ _ h => h) (fun _ _ _ _ _ _ _ h => h)
theorem RefIs.reads (h : RefIs w base r room I) {x : RItem} (hx : x ∈ I) : ReadsT Value.string w w.heap.size 1 x.A x.q.who := ReadsT.of_one (V := Value.string) (fun _ => rfl) (h.who x hx)
theorem RefIs.whoLen (h : RefIs w base r room I) {x : RItem} (hx : x ∈ I) : x.q.who.length ≤ 16 := (setR_parts (h.set x hx)).2.1
end
/-- The place of a question's answer. -/
def placeR (q : Qu) (I : List RItem) : Option Nat := I.findIdx? (fun x => quEq x.q q)
def placeI : Option Nat → Int
  | some i => i
  | none => -1
theorem place_some {q : Qu} {I : List RItem} {j : Nat} {x : RItem} (hx : I[j]? = some x) (hq : quEq x.q q = true) (hno : ∀ i y, i < j → I[i]? = some y → quEq y.q q = false) : placeR q I = some j := by
  unfold placeR
  rw [List.findIdx?_eq_some_iff_getElem]
  obtain ⟨hj, rfl⟩ := List.getElem?_eq_some_iff.1 hx
  refine ⟨hj, hq, fun i hi => ?_⟩
  have := hno i _ hi (List.getElem?_eq_getElem (by omega))
  simp [this]
theorem place_none {q : Qu} {I : List RItem} (hno : ∀ i y, i < I.length → I[i]? = some y → quEq y.q q = false) : placeR q I = none := by
  unfold placeR
  rw [List.findIdx?_eq_none_iff]
  intro x hx
  obtain ⟨i, hi, rfl⟩ := List.getElem_of_mem hx
  exact hno i _ hi (List.getElem?_eq_getElem hi)

set_option maxRecDepth 100000 in
set_option maxHeartbeats 2000000 in
theorem find18_any {w : World} {base r : Nat} {room : Int} {I : List RItem} (h : RefIs w base r room I) (hI : I.length ≤ 1000000) (ob op ver turn : Int) (A : Option Addr) (c : Nat) (who : List ByteArray) (hw : who.length ≤ 1000000) (hr : ReadsT Value.string w w.heap.size 1 A who) :
    Calls Try.prog 48 #[.pointer (some ⟨r, 0, none⟩), .agg #[.int .i64 ob, .int .i64 op, .slice A who.length c, .int .i64 ver, .int .i64 turn]] w fun e w' => e = .returned (.int .i64 (placeI (placeR ⟨ob, op, who⟩ I))) ∧ Kept w w' := by
  obtain ⟨v, hB, hO⟩ := h.row
  obtain ⟨Av, cv, rfl⟩ := own_slice hO
  have hlt := hB.lt
  have HK0 : Hid (Kept w (w.alloc (.cells #[.int .i64 ob, .int .i64 op, .slice A who.length c, .int .i64 ver, .int .i64 turn] 45))) := Lib.hid ((Turned.refl _ w).alloc _)
  have HP : Hid (Blk (w.alloc (.cells #[.int .i64 ob, .int .i64 op, .slice A who.length c, .int .i64 ver, .int .i64 turn] 45)) w.heap.size 45 #[.int .i64 ob, .int .i64 op, .slice A who.length c, .int .i64 ver, .int .i64 turn]) := Lib.hid (Blk.new w _ _)
  have HRW := Lib.hid (ReadsT.of_own (V := itemV) (fun _ => rfl) hO)
  have HB := Lib.hid hB
  have HH := Lib.hid h
  have HR := Lib.hid hr
  clear hO hB h hr
  go_enter Try.func48, Try.ntmps48
  go_wp2_with fail
  generalize w.alloc (.cells #[.int .i64 ob, .int .i64 op, .slice A who.length c, .int .i64 ver, .int .i64 turn] 45) = w1 at HK0 HP ⊢
  obtain ⟨gp, hgp⟩ : ∃ gp, gp = w.heap.size := ⟨_, rfl⟩
  rw [← hgp] at HP
  rw [← hgp]
  have HGP := Lib.hid hgp
  clear hgp
  go_loopg [5] I.length (fun gk i wr => ∃ j : Nat, j + gk = I.length ∧ i = .int .i64 j ∧ Kept w1 wr ∧ ∀ i y, i < j → I[i]? = some y → quEq y.q ⟨ob, op, who⟩ = false)
  case atStart => exact ⟨0, Nat.zero_add _, rfl, Turned.refl _ _, fun i y hi => by omega⟩
  case round =>
    obtain ⟨j, hj, rfl, hK, hno⟩ := hrel
    have HNO := Lib.hid hno
    have hKw := HK0.out.to hK
    have c0 : wr.cell? ⟨r, 0, none⟩ = some (.slice Av I.length cv) := (HB.out.turned hKw (fun h => h)).cell 0
    clear hno
    by_cases hjl : j < I.length
    · obtain ⟨b, o, rfl, hbl, hcell⟩ := HRW.out j hjl
      obtain ⟨x, hxe⟩ : ∃ x, x = I[j] := ⟨_, rfl⟩
      have HX : Hid (I[j]? = some x) := Lib.hid (by rw [hxe]; exact List.getElem?_eq_getElem hjl)
      have hxm : x ∈ I := by rw [hxe]; exact List.getElem_mem hjl
      rw [← hxe] at hcell
      have hcl := fun i hi => (hKw.cell (p := ⟨b, o + j * 7 + i, none⟩) hbl (fun h => h)).trans (hcell i hi)
      have HHELD : Hid (∀ W, Kept wr W → Kept wr W ∧ W.cell? ⟨r, 0, none⟩ = some (.slice (some ⟨b, o, none⟩) I.length cv) ∧ W.cell? ⟨b, o + j * 7, none⟩ = some (.int .i64 x.q.obj) ∧ W.cell? ⟨b, o + j * 7 + 1, none⟩ = some (.int .i64 x.q.op) ∧ W.cell? ⟨b, o + j * 7 + 2, none⟩ = some (.slice x.A x.q.who.length x.c) ∧ W.cell? ⟨b, o + j * 7 + 3, none⟩ = some (.int .i64 x.ver) ∧ W.cell? ⟨b, o + j * 7 + 4, none⟩ = some (.int .i64 x.turn) ∧ W.cell? ⟨gp, 0, none⟩ = some (.int .i64 ob) ∧ W.cell? ⟨gp, 1, none⟩ = some (.int .i64 op) ∧ W.cell? ⟨gp, 2, none⟩ = some (.slice A who.length c) ∧ W.cell? ⟨gp, 3, none⟩ = some (.int .i64 ver) ∧ W.cell? ⟨gp, 4, none⟩ = some (.int .i64 turn)) := by
        intro W hW
        have hp := (HP.out.turned hK (fun h => h)).turned hW (fun h => h)
        have hbw : b < wr.heap.size := Nat.lt_of_lt_of_le hbl hKw.size
        have hrw : r < wr.heap.size := Nat.lt_of_lt_of_le hlt hKw.size
        have hcw := fun i hi => (hW.cell (p := ⟨b, o + j * 7 + i, none⟩) hbw (fun h => h)).trans (hcl i hi)
        exact ⟨hW, (hW.cell (p := ⟨r, 0, none⟩) hrw (fun h => h)).trans c0, hcw 0 (by omega), hcw 1 (by omega), hcw 2 (by omega), hcw 3 (by omega), hcw 4 (by omega), hp.cell 0, hp.cell 1, hp.cell 2, hp.cell 3, hp.cell 4⟩
      have HASK : Hid (∀ W, Kept wr W → Calls Try.prog 26 #[.agg #[.int .i64 x.q.obj, .int .i64 x.q.op, .slice x.A x.q.who.length x.c, .int .i64 x.ver, .int .i64 x.turn], .agg #[.int .i64 ob, .int .i64 op, .slice A who.length c, .int .i64 ver, .int .i64 turn]] W fun e w' => e = .returned (.bool (quEq x.q ⟨ob, op, who⟩)) ∧ Kept W w') := fun W hW =>
        asks_any _ _ _ _ _ _ _ _ _ _ _ _ _ _ W (by have := HH.out.whoLen hxm; omega) hw ((HH.out.reads hxm).kept (hKw.to hW)) (HR.out.kept (hKw.to hW))
      have i0 : (0 : Int) ≤ (j : Int) := by omega
      have i1 : (j : Int) < (I.length : Int) := by omega
      clear hxe hcell hcl hxm hKw
      rcases hq : quEq x.q ⟨ob, op, who⟩ with _ | _
      all_goals
        rw [hq] at HASK
        have HQ := Lib.hid hq
        clear hq
        have HJ := Lib.hid hj
        clear hj
        go_wp2_with fail
        clear c0
        refine wp_region_held_drew (S := fun W => Kept wr W ∧ W.cell? ⟨r, 0, none⟩ = some (.slice (some ⟨b, o, none⟩) I.length cv) ∧ W.cell? ⟨b, o + j * 7, none⟩ = some (.int .i64 x.q.obj) ∧ W.cell? ⟨b, o + j * 7 + 1, none⟩ = some (.int .i64 x.q.op) ∧ W.cell? ⟨b, o + j * 7 + 2, none⟩ = some (.slice x.A x.q.who.length x.c) ∧ W.cell? ⟨b, o + j * 7 + 3, none⟩ = some (.int .i64 x.ver) ∧ W.cell? ⟨b, o + j * 7 + 4, none⟩ = some (.int .i64 x.turn) ∧ W.cell? ⟨gp, 0, none⟩ = some (.int .i64 ob) ∧ W.cell? ⟨gp, 1, none⟩ = some (.int .i64 op) ∧ W.cell? ⟨gp, 2, none⟩ = some (.slice A who.length c) ∧ W.cell? ⟨gp, 3, none⟩ = some (.int .i64 ver) ∧ W.cell? ⟨gp, 4, none⟩ = some (.int .i64 turn)) (by kernel_rfl) (HHELD.out _ (Turned.refl _ wr).drew) (fun hHeld => ?_)
        refine held_take 0 15 (v := ?_) ⟨_, rfl, rfl, by rfl, ?_⟩ (by kernel_rfl) (by kernel_rfl) (by kernel_rfl) (fun _ _ _ h => h) hHeld ?_
        rotate_left
        · (intro w hSw; (try dsimp only at hSw); go_simp; try with_reducible rfl)
        simp only [Act.put, List.setIfInBounds_toArray, List.set_cons_zero, List.set_cons_succ]
        refine held_take 1 16 (v := ?_) ⟨_, rfl, rfl, by rfl, ?_⟩ (by kernel_rfl) (by kernel_rfl) (by kernel_rfl) (fun _ _ _ h => h) hHeld ?_
        rotate_left
        · (intro w hSw; (try dsimp only at hSw); go_simp; try with_reducible rfl)
        simp only [Act.put, List.setIfInBounds_toArray, List.set_cons_zero, List.set_cons_succ]
        refine held_take 2 17 (v := ?_) ⟨_, rfl, rfl, by rfl, ?_⟩ (by kernel_rfl) (by kernel_rfl) (by kernel_rfl) (fun _ _ _ h => h) hHeld ?_
        rotate_left
        · (intro w hSw; (try dsimp only at hSw); go_simp; try with_reducible rfl)
        simp only [Act.put, List.setIfInBounds_toArray, List.set_cons_zero, List.set_cons_succ]
        refine held_take 3 18 (v := ?_) ⟨_, rfl, rfl, by rfl, ?_⟩ (by kernel_rfl) (by kernel_rfl) (by kernel_rfl) (fun _ _ _ h => h) hHeld ?_
        rotate_left
        · (intro w hSw; (try dsimp only at hSw); go_simp; try with_reducible rfl)
        simp only [Act.put, List.setIfInBounds_toArray, List.set_cons_zero, List.set_cons_succ]
        refine held_take 4 19 (v := ?_) ⟨_, rfl, rfl, by rfl, ?_⟩ (by kernel_rfl) (by kernel_rfl) (by kernel_rfl) (fun _ _ _ h => h) hHeld ?_
        rotate_left
        · (intro w hSw; (try dsimp only at hSw); go_simp; try with_reducible rfl)
        simp only [Act.put, List.setIfInBounds_toArray, List.set_cons_zero, List.set_cons_succ]
        refine held_take 5 20 (v := ?_) ⟨_, rfl, rfl, by rfl, ?_⟩ (by kernel_rfl) (by kernel_rfl) (by kernel_rfl) (fun _ _ _ h => h) hHeld ?_
        rotate_left
        · (intro w hSw; (try dsimp only at hSw); go_simp; try with_reducible rfl)
        simp only [Act.put, List.setIfInBounds_toArray, List.set_cons_zero, List.set_cons_succ]
        refine held_take 6 21 (v := ?_) ⟨_, rfl, rfl, by rfl, ?_⟩ (by kernel_rfl) (by kernel_rfl) (by kernel_rfl) (fun _ _ _ h => h) hHeld ?_
        rotate_left
        · (intro w hSw; (try dsimp only at hSw); go_simp; try with_reducible rfl)
        simp only [Act.put, List.setIfInBounds_toArray, List.set_cons_zero, List.set_cons_succ]
        refine held_take 7 22 (v := ?_) ⟨_, rfl, rfl, by rfl, ?_⟩ (by kernel_rfl) (by kernel_rfl) (by kernel_rfl) (fun _ _ _ h => h) hHeld ?_
        rotate_left
        · (intro w hSw; (try dsimp only at hSw); go_simp; try with_reducible rfl)
        simp only [Act.put, List.setIfInBounds_toArray, List.set_cons_zero, List.set_cons_succ]
        refine held_take 8 23 (v := ?_) ⟨_, rfl, rfl, by rfl, ?_⟩ (by kernel_rfl) (by kernel_rfl) (by kernel_rfl) (fun _ _ _ h => h) hHeld ?_
        rotate_left
        · (intro w hSw; (try dsimp only at hSw); go_simp; try with_reducible rfl)
        simp only [Act.put, List.setIfInBounds_toArray, List.set_cons_zero, List.set_cons_succ]
        refine wpAnyH_ready (rs := [9]) (by kernel_rfl) (by simp) ?_
        refine AllReadyH.cons (o := _) rfl (fun K hK => ?_) AllReadyH.nil
        go_simp
        go_at_call 26
        refine (HASK.out _ (Turned.refl _ wr).drew).mono ?_
        rintro e w8 ⟨rfl, hq8⟩
        go_wp2_with fail
        have hk8 : Kept wr w8 := ((Turned.refl _ wr).drew).to hq8
        refine hK.out _ _ (HHELD.out _ hk8) (fun hHeld => ?_)
        clear hK K
        refine wpAnyH_done (by kernel_rfl) ?_ _
        have hK8 := hK.to hk8
        go_wp2_with fail
      · go_roundg (gk - 1)
        case measure => have := HJ.out; omega
        case rel =>
          refine ⟨j + 1, by have := HJ.out; omega, by go_num, hK8, fun i y hi hy => ?_⟩
          by_cases hij : i = j
          · subst hij
            have h1 := HX.out
            rw [hy] at h1
            injection h1 with h1
            rw [h1]
            exact HQ.out
          · exact HNO.out i y (by omega) hy
      · go_ret
        exact ⟨by rw [place_some HX.out HQ.out HNO.out]; rfl, HK0.out.to hK8⟩
    · have i1 : ¬ (j : Int) < (I.length : Int) := by omega
      have hj' : I.length ≤ j := by omega
      go_wp2_with fail
      go_ret
      exact ⟨by rw [place_none (fun i y hi hy => HNO.out i y (by omega) hy)]; rfl, HK0.out.to hK⟩
end Go.Proofs.Ytnicfiochnkjbaa
