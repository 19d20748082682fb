/- The word's Cat. -/
import Derived.Test.YtnmibcmeaakljaaW8
import Derived.Test.YtnmibcmeaakljaaBuild
namespace Go.Proofs.Ytnmibcmeaakljaa
open Go.RowKit

/-- Words one behind the other, as bytes. -/
def joinR (l : List ByteArray) : List UInt8 := l.flatMap (fun s => s.data.toList)
/-- How many atoms they have together. -/
def sumR : List ByteArray → Int
  | [] => 0
  | s :: t => lenR s + sumR t
def anyOdd (l : List ByteArray) : Bool := l.any oddR
def catR (l : List ByteArray) : ByteArray × Int :=
  if anyOdd l then (⟨#[]⟩, 2) else if sumR l ≤ 8 then (⟨(joinR l).toArray⟩, 0) else (⟨#[]⟩, 4)
/-- The count as the program keeps it. -/
def cntR : Int → List ByteArray → Int
  | n, [] => n
  | n, s :: t => cntR (if n ≤ 8 then n + lenR s else n) t
theorem lenR_nn (s : ByteArray) : 0 ≤ lenR s := by unfold lenR; omega
theorem sumR_nn : ∀ l, 0 ≤ sumR l
  | [] => by simp [sumR]
  | s :: t => by have := sumR_nn t; have := lenR_nn s; simp only [sumR]; omega
theorem cntR_le : ∀ (l : List ByteArray) (n : Int), (cntR n l ≤ 8 ↔ n + sumR l ≤ 8)
  | [], n => by simp [cntR, sumR]
  | s :: t, n => by
    simp only [cntR, sumR]
    rw [cntR_le t]
    have := lenR_nn s
    have := sumR_nn t
    split <;> omega
theorem cntR_snoc : ∀ (l : List ByteArray) (n : Int) (s : ByteArray), cntR n (l ++ [s]) = if cntR n l ≤ 8 then cntR n l + lenR s else cntR n l
  | [], n, s => rfl
  | a :: t, n, s => by
    simp only [List.cons_append, cntR]
    exact cntR_snoc t _ s
theorem cntR_bd : ∀ (l : List ByteArray) (n : Int), (∀ s ∈ l, s.size ≤ 1000000) → 0 ≤ n → n ≤ 600000 → 0 ≤ cntR n l ∧ cntR n l ≤ 600000
  | [], n, _, h0, h1 => ⟨h0, h1⟩
  | s :: t, n, h, h0, h1 => by
    have hs := h s (List.mem_cons_self ..)
    have h2 := fun x hx => h x (List.mem_cons_of_mem s hx)
    simp only [cntR]
    have : lenR s ≤ 500000 := by unfold lenR; omega
    have := lenR_nn s
    split
    · exact cntR_bd t _ h2 (by omega) (by omega)
    · exact cntR_bd t _ h2 h0 h1
theorem anyOdd_take {l : List ByteArray} {j : Nat} (h : j < l.length) (h0 : anyOdd (l.take j) = false) (h1 : oddR l[j] = false) : anyOdd (l.take (j + 1)) = false := by
  unfold anyOdd at *
  rw [List.take_succ_eq_append_getElem h, List.any_append, h0]
  simpa using h1
theorem anyOdd_true {l : List ByteArray} {j : Nat} (h : j < l.length) (h1 : oddR l[j] = true) : anyOdd l = true := by
  unfold anyOdd
  exact List.any_eq_true.2 ⟨_, List.getElem_mem h, h1⟩
theorem joinR_take {l : List ByteArray} {j : Nat} (h : j < l.length) : joinR (l.take (j + 1)) = joinR (l.take j) ++ l[j].data.toList := by
  unfold joinR
  rw [List.take_succ_eq_append_getElem h, List.flatMap_append]
  simp
theorem joinR_len : ∀ (l : List ByteArray), (∀ s ∈ l, s.size ≤ 1000000) → (joinR l).length ≤ 1000000 * l.length
  | [], _ => by simp [joinR]
  | s :: t, h => by
    have hs := h s (List.mem_cons_self ..)
    have := joinR_len t (fun x hx => h x (List.mem_cons_of_mem s hx))
    unfold joinR at *
    simp only [List.flatMap_cons, List.length_append, List.length_cons, size_list]
    omega
theorem builder_new (w : World) : Lib.IsBuilder 51 5 w.heap.size w.heap.size (Lib.byteCells []) (w.alloc (.cells #[.pointer none, .slice none 0 0] 51)) :=
  .inl ⟨Nat.le_refl _, .slice none 0 0, heap_alloc_new w _, ⟨by simp [Lib.byteCells], .inl ⟨rfl, rfl⟩⟩, by simp [Value.ownBlock]⟩

set_option maxRecDepth 100000 in
set_option maxHeartbeats 2000000 in
theorem cat_any (A : Option Addr) (c : Nat) (l : List ByteArray) (w : World) (hl : l.length ≤ 1000) (hs : ∀ s ∈ l, s.size ≤ 1000000) (hr : ReadsT Value.string w w.heap.size 1 A l) :
    Calls Try.prog 27 #[.slice A l.length c] w fun e w' => e = .returned (.tuple #[.string (catR l).1, .int .i64 (catR l).2]) ∧ Kept w w' := by
  have HR := Lib.hid hr
  have HS := Lib.hid hs
  clear hr hs
  go_enter Try.func27, Try.ntmps27
  go_wp2_with fail
  go_loopg [4, 12] l.length (fun gk n i wr => ∃ j : Nat, j + gk = l.length ∧ i = .int .i64 j ∧ n = .int .i64 (cntR 0 (l.take j)) ∧ anyOdd (l.take j) = false ∧ w = wr)
  case atStart => exact ⟨0, Nat.zero_add _, rfl, rfl, rfl, rfl⟩
  case round =>
    obtain ⟨j, hj, rfl, rfl, ho, rfl⟩ := hrel
    have HO := Lib.hid ho
    clear ho
    by_cases hjl : j < l.length
    · obtain ⟨b, o, rfl, _, hc⟩ := ReadsT.cell_one (fun _ => rfl) HR.out hjl
      have hs := HS.out _ (List.getElem_mem hjl)
      have HC := Lib.hid (cntR_snoc (l.take j) 0 l[j])
      rw [← List.take_succ_eq_append_getElem hjl] at HC
      obtain ⟨n0, n1⟩ := cntR_bd (l.take j) 0 (fun s h => HS.out s (List.mem_of_mem_take h)) (by omega) (by omega)
      have HT := Lib.hid (fun h => anyOdd_take hjl HO.out h)
      have HF := Lib.hid (fun h => anyOdd_true hjl h)
      have i1 : (j : Int) < (l.length : Int) := by omega
      generalize l[j] = s at hc hs HC HT HF
      have hm : s.size ≤ maxLen := by unfold maxLen; omega
      have L0 := lenR_nn s
      have L1 : lenR s ≤ 500000 := by unfold lenR; omega
      have C1 := odd_any s w hm
      have C2 := len_any s w hm
      generalize cntR 0 (l.take j) = n at HC n0 n1
      rcases hod : oddR s with _ | _
      · rw [hod] at C1
        have HT2 := Lib.hid (HT.out hod)
        have CC1 := Lib.hid C1
        have CC2 := Lib.hid C2
        clear HT HF hod C1 C2 HO
        by_cases hn : n ≤ 8
        · have HC2 : Hid (cntR 0 (l.take (j + 1)) = n + lenR s) := by have h := HC.out; rw [if_pos hn] at h; exact h
          clear HC
          generalize lenR s = L at HC2 L0 L1 CC2
          go_wp2_with fail
          refine CC1.out.mono ?_
          rintro e w' ⟨rfl, rfl⟩
          go_wp2_with fail
          refine CC2.out.mono ?_
          rintro e w' ⟨rfl, rfl⟩
          go_wp2_with fail
          go_roundg (gk - 1)
          case measure => omega
          case rel => exact ⟨j + 1, by omega, by go_num, by rw [HC2.out], HT2.out, rfl⟩
        · have HC2 : Hid (cntR 0 (l.take (j + 1)) = n) := by have h := HC.out; rw [if_neg hn] at h; exact h
          clear HC
          go_wp2_with fail
          refine CC1.out.mono ?_
          rintro e w' ⟨rfl, rfl⟩
          go_wp2_with fail
          go_roundg (gk - 1)
          case measure => omega
          case rel => exact ⟨j + 1, by omega, by go_num, by rw [HC2.out], HT2.out, rfl⟩
      · rw [hod] at C1
        have HE : Hid (catR l = (⟨#[]⟩, 2)) := by
          have h := HF.out hod
          show catR l = _
          unfold catR
          rw [h]
          rfl
        have CC1 := Lib.hid C1
        clear HT HF hod C1 C2 HO HC
        go_wp2_with fail
        refine CC1.out.mono ?_
        rintro e w' ⟨rfl, rfl⟩
        go_wp2_with fail
        go_ret2
        exact ⟨by rw [HE.out]; rfl, Turned.refl _ _⟩
    · have hjj : j = l.length := by omega
      subst hjj
      obtain ⟨n0, n1⟩ := cntR_bd l 0 (fun s h => HS.out s h) (by omega) (by omega)
      rw [List.take_length] at HO
      rw [List.take_length]
      have HN := Lib.hid (cntR_le l 0)
      generalize cntR 0 l = n at HN n0 n1
      by_cases hn : n ≤ 8
      · have HE : Hid (catR l = (⟨(joinR l).toArray⟩, 0)) := by
          have h := HN.out.1 hn
          show catR l = _
          unfold catR
          rw [HO.out, if_neg (by simp), if_pos (by omega)]
        clear HN HO
        have hB := builder_new w
        go_wp2_with fail
        go_loopg [29] l.length (fun gk i wr => ∃ j : Nat, j + gk = l.length ∧ i = .int .i64 j ∧ Lib.IsBuilder 51 5 w.heap.size w.heap.size (Lib.byteCells (joinR (l.take j))) wr ∧ Below w.heap.size w wr)
        case atStart => exact ⟨0, Nat.zero_add _, rfl, hB, (Below.refl _ _).alloc (Nat.le_refl _) _⟩
        case round =>
          clear hB
          obtain ⟨j, hj, rfl, hI, hb⟩ := hrel
          by_cases hjl : j < l.length
          · obtain ⟨b, o, rfl, hbl, hc⟩ := ReadsT.cell_one (fun _ => rfl) HR.out hjl
            have c0 : wr.cell? ⟨b, o + j, none⟩ = some (.string l[j]) := (hb.cell (p := ⟨b, o + j, none⟩) hbl).trans hc
            have hs := HS.out _ (List.getElem_mem hjl)
            have HJ := Lib.hid (joinR_take hjl)
            have hlen := joinR_len (l.take j) (fun s h => HS.out s (List.mem_of_mem_take h))
            have hle : (joinR (l.take j)).length ≤ 1000000 * 1000 := by
              have : (l.take j).length ≤ 1000 := by simp; omega
              omega
            have i1 : (j : Int) < (l.length : Int) := by omega
            generalize l[j] = s at c0 hs HJ
            have hsz := hb.size
            have CC := Lib.hid (writeString_any w.heap.size w.heap.size _ s wr hI (by rw [Lib.byteCells_length]; omega) hsz)
            clear hc hI hlen
            go_wp2_with fail
            refine CC.out.mono ?_
            rintro e w2 ⟨rfl, hI2, hb2⟩
            go_wp2_with fail
            go_roundg (gk - 1)
            case measure => omega
            case rel =>
              refine ⟨j + 1, by omega, by go_num, .inr ?_, hb.trans hb2⟩
              rw [HJ.out, Lib.byteCells_append, ← Lib.strCells_eq]
              exact hI2
          · have hjj : j = l.length := by omega
            subst hjj
            rw [List.take_length] at hI
            have CC := Lib.hid (string_any w.heap.size w.heap.size _ wr hI hb.size)
            clear hI
            go_wp2_with fail
            refine CC.out.mono ?_
            rintro e w2 ⟨rfl, hb2⟩
            go_wp2_with fail
            go_ret2
            refine ⟨by rw [HE.out]; rfl, ?_⟩
            have := hb.trans hb2
            exact ⟨this.os, this.tape, this.output, this.size, fun k hk _ => this.block k hk⟩
      · have HE : Hid (catR l = (⟨#[]⟩, 4)) := by
          have h := mt HN.out.2 hn
          show catR l = _
          unfold catR
          rw [HO.out, if_neg (by simp), if_neg (by omega)]
        clear HN HO
        go_wp2_with fail
        go_ret2
        exact ⟨by rw [HE.out]; rfl, Turned.refl _ _⟩
end Go.Proofs.Ytnmibcmeaakljaa
