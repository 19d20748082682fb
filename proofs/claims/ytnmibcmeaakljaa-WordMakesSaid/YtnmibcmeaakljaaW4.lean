/- The word's Atoms, and the reference's; the law's same. -/
import Derived.Test.YtnmibcmeaakljaaW3
namespace Go.Proofs.Ytnmibcmeaakljaa
open Go.RowKit

theorem info_atom : (Try.prog.info? 32).map (fun i => (i.zero, i.size, i.bytes)) = some (some (.int .u16 0), 1, 2) := by kernel_rfl
/-- The first atoms, and zeros behind. -/
def partR (s : ByteArray) (j : Nat) : List Int := (atomsR s).take j ++ List.replicate ((atomsR s).length - j) 0
theorem part_len (s : ByteArray) (j : Nat) (h : j ≤ (atomsR s).length) : (partR s j).length = (atomsR s).length := by
  unfold partR; simp; omega
theorem part_set {s : ByteArray} {j : Nat} (h : j < (atomsR s).length) : (partR s j).set j (atR s j) = partR s (j + 1) := by
  unfold partR
  rw [at_get h, List.set_append_right (h := by simp; omega)]
  rw [show (atomsR s).length - j = ((atomsR s).length - (j + 1)) + 1 by omega, List.replicate_succ]
  rw [show j - ((atomsR s).take j).length = 0 by simp; omega, List.set_cons_zero, List.take_succ_eq_append_getElem h, List.append_assoc]
  rfl
theorem part_zero (s : ByteArray) : (partR s 0).map atV = (madeCells (Value.int .u16 0).cells (atomsR s).length).toList := by
  unfold partR madeCells
  simp [Value.cells, List.map_replicate, atV]
  apply List.ext_getElem
  · simp
  · intro i h1 h2
    simp [Nat.mod_one]
theorem part_all (s : ByteArray) : partR s (atomsR s).length = atomsR s := by
  unfold partR; simp
theorem map_set {α β : Type} (f : α → β) (l : List α) (i : Nat) (a : α) : (l.map f).set i (f a) = (l.set i a).map f := by
  rw [List.map_set]

set_option maxRecDepth 100000 in
set_option maxHeartbeats 1000000 in
theorem atoms_any (s : ByteArray) (w : World) (hs : s.size ≤ 1000000) :
    Calls Try.prog 20 #[.string s] w fun e w' => ∃ v, e = .returned v ∧ w'.ownsRow w.heap.size 32 1 v (atomsR s).length ((atomsR s).map atV) ∧ Kept w w' := by
  obtain ⟨i0, hi0, hz0, hz1, hz2⟩ := info_parts info_atom
  have hm : s.size ≤ maxLen := by unfold maxLen; omega
  have C := Lib.hid (len_any s w hm)
  have hln := atoms_length s
  have hL : lenR s = ((atomsR s).length : Int) := by unfold lenR; omega
  have hb : (atomsR s).length ≤ 500000 := by omega
  rw [hL] at C
  have PZ := part_zero s
  have PL := Lib.hid (part_all s)
  have PS := Lib.hid (fun j (h : j < (atomsR s).length) => part_set (s := s) (j := j) h)
  generalize hN : (atomsR s).length = N at *
  clear hL hln
  have HN := Lib.hid hN
  clear hN
  go_enter Try.func20, Try.ntmps20
  go_wp2_with fail
  refine C.out.mono ?_
  rintro e w' ⟨rfl, rfl⟩
  go_wp2_with (at_make; refine wpList_make_full _ rfl _ _ 29 rfl w.heap.size 32 i0 (.int .u16 0) 1 Try.underlying29 hi0 hz0 hz1 .i64 .i64 _ _ N rfl rfl rfl rfl (by rw [hz2]; omega) (by unfold maxLen; omega) (Nat.le_refl _) ?_; intro w1 O1 hg1)
  have hK1 : Kept w w1 := (Turned.refl _ w).grown hg1 (fun _ h => by cases h)
  rw [Nat.mul_one, ← PZ] at O1
  clear hg1 PZ C
  go_loopg [10] N (fun gk i wr => ∃ j : Nat, j + gk = N ∧ i = .int .i64 j ∧ wr.ownsRow w.heap.size 32 1 (.slice (some ⟨w.heap.size, 0, none⟩) N N) N ((partR s j).map atV) ∧ Kept w wr)
  case atStart => exact ⟨0, Nat.zero_add _, rfl, O1, hK1⟩
  case round =>
    clear O1 hK1
    obtain ⟨j, hj, rfl, hown, hK⟩ := hrel
    by_cases hjl : j < N
    · have CA := Lib.hid (at_any s j wr hm ⟨by omega, by omega⟩)
      have hsz := own_lt hown rfl
      have ho2 := own_turned hown ((Turned.refl (fun _ => False) wr)) (fun _ _ h => h)
      go_wp2_with fail
      refine CA.out.mono ?_
      rintro e w' ⟨rfl, n, rfl⟩
      have h1 := (own_turned hown ((Turned.refl (fun _ => False) wr).drewN n) (fun _ _ h => h))
      have f1 := h1.frozenAt j
      have c1 : ∃ u, (wr.drewN n).cell? ⟨w.heap.size, j, none⟩ = some u := ⟨_, (h1.cellAt j (by omega)).trans (List.getElem?_eq_getElem (by have := h1.1; omega))⟩
      obtain ⟨u, c1⟩ := c1
      obtain ⟨S1, _⟩ := h1.stored j (atV (atR s j))
      rw [map_set, PS.out _ hjl] at S1
      go_wp2_with fail
      go_roundg (gk - 1)
      case measure => omega
      case rel =>
        refine ⟨j + 1, by omega, by go_num, S1, (hK.drewN n).setCell (fun h => by simp at h) _⟩
    · have hjj : j = N := by omega
      subst hjj
      rw [PL.out] at hown
      go_wp2_with fail
      go_ret
      exact ⟨_, rfl, hown, hK⟩

theorem atoms_take {s : ByteArray} {j : Nat} (h : j < (atomsR s).length) : (atomsR s).take (j + 1) = (atomsR s).take j ++ [byteAt s (2 * j) * 256 + byteAt s (2 * j + 1)] := by
  rw [List.take_succ_eq_append_getElem h]
  have := atoms_get (s := s) (i := j) (by rw [← atoms_length]; exact h)
  rw [List.getElem?_eq_getElem h] at this
  injection this with this
  rw [this]
set_option maxRecDepth 100000 in
set_option maxHeartbeats 1000000 in
theorem ratoms_any (s : ByteArray) (w : World) (hs : s.size ≤ 1000000) :
    Calls Try.prog 16 #[.string s] w fun e w' => ∃ v, e = .returned v ∧ w'.ownsRow w.heap.size 32 1 v (atomsR s).length ((atomsR s).map atV) ∧ Kept w w' := by
  obtain ⟨i0, hi0, hz0, hz1, hz2⟩ := info_parts info_atom
  have hln := atoms_length s
  have hE := own_empty w w.heap.size 32 1 (Nat.le_refl _)
  have HT := Lib.hid (fun j (h : j < (atomsR s).length) => atoms_take (s := s) (j := j) h)
  have HA : Hid ((atomsR s).take (atomsR s).length = atomsR s) := Lib.hid (List.take_length)
  have HL := Lib.hid (fun j (h : j ≤ (atomsR s).length) => (List.length_take_of_le h))
  generalize hN : (atomsR s).length = N at *
  have h0 : 2 * N ≤ s.size := by omega
  have h1 : s.size ≤ 2 * N + 1 := by omega
  clear hln hN
  go_enter Try.func16, Try.ntmps16
  go_wp2_with fail
  go_loopg [3, 4] N (fun gk v i wr => ∃ j : Nat, j + gk = N ∧ i = .int .i64 (2 * (j : Int)) ∧ wr.ownsRow w.heap.size 32 1 v j (((atomsR s).take j).map atV) ∧ Kept w wr)
  case atStart => exact ⟨0, Nat.zero_add _, rfl, hE, (Turned.refl _ _).alloc _⟩
  case round =>
    obtain ⟨j, hj, rfl, hown, hK⟩ := hrel
    clear hE
    by_cases hjl : j < N
    · have HE := Lib.hid (HT.out j hjl)
      have x1 : ∀ W, (Instr.index 22 (.string s) (.int .i64 (2 * (j : Int)))).run Try.prog W = .ok (.int .u8 (byteAt s (2 * j))) W := fun W => by
        rw [run_index_string W _ _ _ _ Try.underlying22, dif_pos ⟨by omega, by omega⟩, ← byteAt_eq (by omega)]
        congr 2
      have x2 : ∀ W, (Instr.index 22 (.string s) (.int .i64 ((2 * (j : Int)) + 1))).run Try.prog W = .ok (.int .u8 (byteAt s (2 * j + 1))) W := fun W => by
        rw [run_index_string W _ _ _ _ Try.underlying22, dif_pos ⟨by omega, by omega⟩, ← byteAt_eq (by omega)]
        congr 2
      obtain ⟨a0, a1⟩ := byteAt_bd s (2 * j)
      obtain ⟨b0, b1⟩ := byteAt_bd s (2 * j + 1)
      have hsz := hK.size
      generalize byteAt s (2 * j) = a at x1 a0 a1 HE
      generalize byteAt s (2 * j + 1) = b at x2 b0 b1 HE
      obtain ⟨A', c', rfl⟩ := own_slice hown
      have d1 : ((2 * (j : Int)) + 1) < (s.size : Int) := by omega
      have k1 : IntKind.u16.wrap (a * 256) = a * 256 := wraps_u16 _ (by omega) (by omega)
      have k2 : IntKind.u16.wrap (a * 256 + b) = a * 256 + b := wraps_u16 _ (by omega) (by omega)
      have k4 : IntKind.u16.wrap a = a := wraps_u16 _ (by omega) (by omega)
      have k5 : IntKind.u16.wrap b = b := wraps_u16 _ (by omega) (by omega)
      have k3 : IntKind.i64.wrap ((2 * (j : Int)) + 1) = (2 * (j : Int)) + 1 := by rw [IntKind.wrap_i64]; omega
      go_wp2_with fail
      go_region_law (refine step_append_lies _ (by rfl) _ _ _ (by rfl) w.heap.size 32 i0 _ 1 2 Try.underlying29 hi0 hz0 hz1 hz2 rfl (by omega) (.slice A' j c') _ _ (by rfl) ((hown.alloc _).drew) ⟨wr.heap.size, 0, none⟩ 1 1 [.int .u16 (a * 256 + b)] (by rfl) (by rfl) (World.news_of_block (cs := #[.int .u16 (a * 256 + b)]) (t := 32) (fr := (0, 0)) (heap_alloc_new wr _)) (by simp [Value.oneCell']) (by omega) (by unfold maxLen; omega) (by omega) (by simp; omega) (wr.heap.size + 1) (by simp) ?_; intro gg cap w3 O3 hg3 hat hlt3)
      all_goals
        go_wp2_with fail
        go_roundg (gk - 1)
        case measure => clear k1 k2 k3 k4 k5; omega
        case rel =>
          clear k1 k2 k3 k4 k5
          refine ⟨j + 1, by omega, by go_num, ?_, ?_⟩
          · rw [HE.out, List.map_append]; exact O3
          · exact ((hK.alloc _).drew.grown hg3 (fun k h hk => absurd (own_base hown h) (by omega)))
    · have hjj : j = N := by omega
      subst hjj
      rw [HA.out] at hown
      have d1 : ¬ ((2 * (j : Int)) + 1) < (s.size : Int) := by omega
      go_wp2_with fail
      go_ret
      exact ⟨_, rfl, hown, hK⟩

theorem take_eq_succ {α : Type} {xs ys : List α} {j : Nat} (hx : j < xs.length) (hy : j < ys.length) (h : xs.take j = ys.take j) (e : xs[j] = ys[j]) : xs.take (j + 1) = ys.take (j + 1) := by
  rw [List.take_succ_eq_append_getElem hx, List.take_succ_eq_append_getElem hy, h, e]
set_option maxRecDepth 100000 in
set_option maxHeartbeats 1000000 in
theorem same_any (A1 A2 : Option Addr) (c1 c2 B1 B2 : Nat) (xs ys : List Int) (w : World) (_hx : xs.length ≤ 140737488351232) (_hy : ys.length ≤ 140737488351232) (h1 : ReadsT atV w B1 1 A1 xs) (h2 : ReadsT atV w B2 1 A2 ys) :
    Calls Try.prog 19 #[.slice A1 xs.length c1, .slice A2 ys.length c2] w fun e w' => e = .returned (.bool (decide (xs = ys))) ∧ ∃ n, w' = w.drewN n := by
  by_cases hl : xs.length = ys.length
  · have hlb : ((xs.length : Int) != (ys.length : Int)) = false := by simp [hl]
    have HL := Lib.hid hl
    have hl' : xs.length ≤ ys.length := by omega
    clear hl
    go_enter Try.func19, Try.ntmps19
    go_wp2_with fail
    go_loopg [13] xs.length (fun gk i wr => ∃ j : Nat, j + gk = xs.length ∧ i = .int .i64 j ∧ xs.take j = ys.take j ∧ ∃ n, wr = w.drewN n)
    case atStart => exact ⟨0, Nat.zero_add _, rfl, rfl, 0, rfl⟩
    case round =>
      obtain ⟨j, hj, rfl, heq, n, rfl⟩ := hrel
      by_cases hjl : j < xs.length
      · obtain ⟨b1, o1, rfl, _, d1⟩ := ReadsT.cell_one (fun _ => rfl) h1 hjl
        obtain ⟨b2, o2, rfl, _, d2⟩ := ReadsT.cell_one (fun _ => rfl) h2 (j := j) (by omega)
        have HQ := Lib.hid heq
        obtain ⟨x, hxx⟩ : ∃ x, x = xs[j] := ⟨_, rfl⟩
        obtain ⟨y, hyy⟩ : ∃ y, y = ys[j]'(by omega) := ⟨_, rfl⟩
        rw [← hxx] at d1
        rw [← hyy] at d2
        unfold atV at d1 d2
        have HX := Lib.hid hxx
        have HY := Lib.hid hyy
        have i0 : (0 : Int) ≤ (j : Int) := by omega
        have i1 : (j : Int) < (xs.length : Int) := by omega
        have i2 : (j : Int) < (ys.length : Int) := by omega
        clear h1 h2 heq hxx hyy
        by_cases he : x = y
        · have hb : (x == y) = true := by rw [he]; simp
          have hb2 : (x != y) = false := by rw [he]; simp
          have HE := Lib.hid he
          clear he
          go_wp2_with fail
          go_quiet (fail)
          go_wp2_with fail
          go_roundg (gk - 1)
          case measure => omega
          case rel => exact ⟨j + 1, by omega, by go_num, take_eq_succ hjl (by omega) HQ.out (by rw [← HX.out, ← HY.out, HE.out]), _, rfl⟩
        · have hb : (x == y) = false := by simpa using he
          have hb2 : (x != y) = true := by simpa using he
          have HE := Lib.hid he
          clear he
          go_wp2_with fail
          go_quiet (fail)
          go_wp2_with fail
          go_ret
          refine ⟨?_, n + nq, by rw [World.drewN_drewN]⟩
          rw [decide_eq_false]
          · rfl
          · intro h
            refine HE.out ?_
            rw [HX.out, HY.out]
            simp only [h]
      · have hjj : j = xs.length := by omega
        clear h1 h2
        have HR : Hid (xs = ys) := by
          rw [hjj, List.take_length, List.take_of_length_le (by have := HL.out; omega)] at heq
          exact heq
        clear heq
        go_wp2_with fail
        go_ret
        exact ⟨by rw [decide_eq_true HR.out]; rfl, _, rfl⟩
  · have hlb : ((xs.length : Int) != (ys.length : Int)) = true := by simp; omega
    have HR : Hid (decide (xs = ys) = false) := decide_eq_false (fun h => hl (by rw [h]))
    clear hl
    go_enter Try.func19, Try.ntmps19
    go_wp2_with fail
    go_ret
    exact ⟨by rw [HR.out]; rfl, 0, rfl⟩
end Go.Proofs.Ytnmibcmeaakljaa
