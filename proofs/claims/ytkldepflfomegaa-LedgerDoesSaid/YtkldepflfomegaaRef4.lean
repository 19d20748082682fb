/- The contract of the reference's Write. -/
import Derived.Test.YtkldepflfomegaaRef3
namespace Go.Proofs.Ytkldepflfomegaa
open Go.RowKit
open Go.Maps (Keyed)

theorem info_rmade : (Try.prog.info? 90).map (fun i => (i.zero, i.size, i.bytes)) = some (some (.agg #[.int .u16 0, .int .i64 0, .int .i64 0, .string ⟨#[]⟩, .int .i64 0]), 5, 48) := by kernel_rfl

set_option maxHeartbeats 1000000 in
theorem rwrite_no (p : Nat) (a wy sq : Int) (s : ByteArray) (y : Int) (w : World) (h : ¬ writeOk a wy sq y) (ha : u16 a) :
    Calls Try.prog 14 #[.pointer (some ⟨p, 0, none⟩), .agg #[.int .u16 a, .int .i64 wy, .int .i64 sq, .string s], .int .i64 y] w fun e w' => e = .returned (.int .i64 1) ∧ Kept w w' := by
  have h0 := ha.1
  have h1 := ha.2
  have hx : (decide (a < 16384) = true) ∨ (decide (a < 16384) = false ∧ decide (24576 ≤ a) = true) ∨ (decide (a < 16384) = false ∧ decide (24576 ≤ a) = false ∧ decide (wy < 0) = true) ∨
      (decide (a < 16384) = false ∧ decide (24576 ≤ a) = false ∧ decide (wy < 0) = false ∧ decide (1 < wy) = true) ∨ (decide (a < 16384) = false ∧ decide (24576 ≤ a) = false ∧ decide (wy < 0) = false ∧ decide (1 < wy) = false ∧ decide (sq < 0) = true) ∨
      (decide (a < 16384) = false ∧ decide (24576 ≤ a) = false ∧ decide (wy < 0) = false ∧ decide (1 < wy) = false ∧ decide (sq < 0) = false ∧ decide (y < 0) = true) := by
    unfold writeOk at h
    simp only [decide_eq_true_eq, decide_eq_false_iff_not]
    omega
  clear h ha
  rcases hx with d1 | ⟨d1, d2⟩ | ⟨d1, d2, d3⟩ | ⟨d1, d2, d3, d4⟩ | ⟨d1, d2, d3, d4, d5⟩ | ⟨d1, d2, d3, d4, d5, d6⟩
  all_goals
    go_enter Try.func14, Try.ntmps14
    go_wp2_with fail
    go_ret
    exact ⟨rfl, (Turned.refl _ w).alloc _⟩

theorem hasB_made_succ {M : List Made} {x : Made} {j : Nat} (hj : j < M.length) : hasB x (M.take (j + 1)) = (hasB x (M.take j) || decide (M[j] = x)) := by
  unfold hasB
  rw [List.take_succ_eq_append_getElem hj, List.any_append]
  simp

set_option maxRecDepth 100000 in
set_option maxHeartbeats 2000000 in
theorem rwrite_yes (p : Nat) (s1 s2 s3 : Value) (S : List Sig) (M : List Made) (T : List Int) (a wy sq : Int) (s : ByteArray) (y : Int) (w : World) (hl : M.length ≤ 2000) (h : RefIs w p s1 s2 s3 S M T) (hok : writeOk a wy sq y) (ha : u16 a) :
    Calls Try.prog 14 #[.pointer (some ⟨p, 0, none⟩), .agg #[.int .u16 a, .int .i64 wy, .int .i64 sq, .string s], .int .i64 y] w fun e w' => e = .returned (.int .i64 (writeR M (a, wy, sq, s) y).1) ∧ RefStep w w' p s1 s2 s3 S (writeR M (a, wy, sq, s) y).2 T := by
  obtain ⟨i0, hi0, hz0, hz1, hz2⟩ := info_parts info_rmade
  have h0 := ha.1
  have h1 := ha.2
  have d1 : decide (a < 16384) = false := by simp; have := hok.1; omega
  have d2 : decide (24576 ≤ a) = false := by simp; have := hok.1; omega
  have d3 : decide (wy < 0) = false := by simp; have := hok.2.1; omega
  have d4 : decide (1 < wy) = false := by simp; have := hok.2.1; omega
  have d5 : decide (sq < 0) = false := by simp; have := hok.2.2.1; omega
  have d6 : decide (y < 0) = false := by simp; have := hok.2.2.2; omega
  obtain ⟨A, c, hs2⟩ := own_slice h.r2
  subst hs2
  have HW : Hid (writeR M (a, wy, sq, s) y = if hasB ((a, wy, sq, s), y) M then (0, M) else if M.length < 2000 then (0, M ++ [((a, wy, sq, s), y)]) else (3, M)) := if_pos hok
  have H := Lib.hid h
  clear h hok ha
  go_enter Try.func14, Try.ntmps14
  go_wp2_with fail
  go_loopg [7] M.length (fun gk i wr => ∃ j : Nat, j + gk = M.length ∧ i = .int .i64 j ∧ hasB ((a, wy, sq, s), y) (M.take j) = false ∧ Blk wr w.heap.size 36 #[.int .u16 a, .int .i64 wy, .int .i64 sq, .string s] ∧ Kept w wr)
  case atStart => exact ⟨0, Nat.zero_add _, rfl, rfl, Blk.new w _ _, (Turned.refl _ _).alloc _⟩
  case round =>
    obtain ⟨j, hj, rfl, hno, hX, hK⟩ := hrel
    have hI := H.out.turned hK (fun _ _ h => h)
    have q0 := hI.blk.cell 1
    simp at q0
    have hlt := hI.blk.lt
    have hsz := hK.size
    have x0 : wr.cell? ⟨w.heap.size, 0, none⟩ = some (.int .u16 a) := hX.cell 0
    have x1 : wr.cell? ⟨w.heap.size, 1, none⟩ = some (.int .i64 wy) := hX.cell 1
    have x2 : wr.cell? ⟨w.heap.size, 2, none⟩ = some (.int .i64 sq) := hX.cell 2
    have x3 : wr.cell? ⟨w.heap.size, 3, none⟩ = some (.string s) := hX.cell 3
    have hxl := hX.lt
    by_cases hjl : j < M.length
    · obtain ⟨g, rfl, hg, hc⟩ := own_elem madeV (fun _ => rfl) hI.r2 hjl
      have HS := hasB_made_succ (x := ((a, wy, sq, s), y)) hjl
      rw [hno, Bool.false_or] at HS
      obtain ⟨⟨⟨a', wy', sq', s'⟩, y'⟩, hM⟩ : ∃ x, x = M[j] := ⟨_, rfl⟩
      rw [← hM] at hc HS
      have c0 : wr.cell? ⟨g, j * 5, none⟩ = some (.int .u16 a') := hc 0 (by omega)
      have c1 : wr.cell? ⟨g, j * 5 + 1, none⟩ = some (.int .i64 wy') := hc 1 (by omega)
      have c2 : wr.cell? ⟨g, j * 5 + 2, none⟩ = some (.int .i64 sq') := hc 2 (by omega)
      have c3 : wr.cell? ⟨g, j * 5 + 3, none⟩ = some (.string s') := hc 3 (by omega)
      have c4 : wr.cell? ⟨g, j * 5 + 4, none⟩ = some (.int .i64 y') := hc 4 (by omega)
      have hj0 : (0 : Int) ≤ (j : Int) := by omega
      have i1 : (j : Int) < (M.length : Int) := by omega
      have HG : Hid (∀ e : ((a', wy', sq', s'), y') = ((a, wy, sq, s), y), hasB ((a, wy, sq, s), y) M = true) := fun e => hasB_of_get hjl (by rw [← hM]; exact e)
      have HSS := Lib.hid HS
      have HI := Lib.hid hI
      clear hc HS hM hno hI
      have heq := fun W => eq_mac a wy sq s a' wy' sq' s' W
      by_cases hkj : (a', wy', sq', s') = (a, wy, sq, s)
      · rw [decide_eq_true hkj] at heq
        by_cases hy : y' = y
        · have hyb : (y' == y) = true := by simpa using hy
          have HR : Hid (hasB ((a, wy, sq, s), y) M = true) := HG.out (by rw [hkj, hy])
          clear hkj hy HG HSS
          go_wp2_with fail
          go_quiet (fail)
          go_wp2_with fail
          go_ret
          have hw := HW.out
          rw [HR.out, if_pos rfl] at hw
          rw [hw]
          exact ⟨rfl, H.out.same (hK.drewN nq)⟩
        · have hyb : (y' == y) = false := by simpa using hy
          have HR : Hid (hasB ((a, wy, sq, s), y) (M.take (j + 1)) = false) := by
            show _ = false
            rw [HSS.out]; simp [hy]
          clear hkj hy HG HSS
          go_wp2_with fail
          go_quiet (fail)
          go_wp2_with fail
          go_roundg (gk - 1)
          case measure => omega
          case rel => exact ⟨j + 1, by omega, by go_num, HR.out, hX.drewN nq, hK.drewN nq⟩
      · rw [decide_eq_false hkj] at heq
        have HR : Hid (hasB ((a, wy, sq, s), y) (M.take (j + 1)) = false) := by
          show _ = false
          rw [HSS.out]
          exact decide_eq_false (fun e => hkj (congrArg Prod.fst e))
        clear hkj HG HSS
        go_wp2_with fail
        go_quiet (fail)
        go_wp2_with fail
        go_roundg (gk - 1)
        case measure => omega
        case rel => exact ⟨j + 1, by omega, by go_num, HR.out, hX.drewN nq, hK.drewN nq⟩
    · have hjj : j = M.length := by omega
      subst hjj
      have HR := Lib.hid (show hasB ((a, wy, sq, s), y) M = false by simpa using hno)
      clear hno
      by_cases hlen : M.length < 2000
      · have hd : decide ((2000 : Int) ≤ (M.length : Int)) = false := by simp; omega
        have hR := hI.r2
        have hBk := hI.blk
        have ag : (Value.slice A M.length c).ownBlock ≠ some p := own_blk_ne hR hBk (by decide)
        have HI := Lib.hid hI
        clear hI
        go_wp2_with fail
        go_region_law (refine step_append_lies _ (by rfl) _ _ _ (by rfl) 0 90 i0 _ 5 48 Try.underlying29 hi0 hz0 hz1 hz2 rfl (by omega) (.slice A M.length c) M.length _ (by rfl) ((hR.alloc _).drew) ⟨wr.heap.size, 0, none⟩ 1 1 [.int .u16 a, .int .i64 wy, .int .i64 sq, .string s, .int .i64 y] (by rfl) (by rfl) (World.news_of_block (cs := #[.int .u16 a, .int .i64 wy, .int .i64 sq, .string s, .int .i64 y]) (t := 90) (fr := (0, 0)) (heap_alloc_new wr _)) (by simp [Value.oneCell']) (by omega) (by unfold maxLen; omega) (by omega) (Nat.zero_le _) (wr.heap.size + 1) (by simp) ?_; intro gg cap w3 O3 hg3 hat hlt3; have B3 : Blk w3 p _ _ := (hBk.alloc _).drew.grown hg3 (Ne.symm ag); have e0 := B3.cell 1; have e1 := B3.frozen 1; simp at e0)
        all_goals go_wp2_with fail
        all_goals go_ret
        all_goals
          have hw := HW.out
          rw [HR.out, if_neg (by simp), if_pos hlen] at hw
          rw [hw]
          have hdr : ((wr.alloc (.cells #[.int .u16 a, .int .i64 wy, .int .i64 sq, .string s, .int .i64 y] 90)).grownBy w3 (Value.slice A M.length c).ownBlock) := ⟨hg3.os, hg3.tape, hg3.output, hg3.size, hg3.block⟩
          obtain ⟨n1, n2⟩ := ref_next2 (x := ((a, wy, sq, s), y)) HI.out hdr O3
          refine ⟨rfl, _, _, _, n1, ((hK.mono (fun _ _ h => h.elim)).then_ n2 (fun i _ hi => hi.elim .inl (fun h => .inr (.inr (.inl h))))), ?_⟩
          rintro i (hi | hi | hi | hi)
          · exact .inl (.inl hi)
          · exact .inl (.inr (.inl hi))
          · have : gg = i := by simpa [Value.ownBlock] using hi
            subst this
            rcases hat with h | h
            · exact .inl (.inr (.inr (.inl h)))
            · exact .inr (by omega)
          · exact .inl (.inr (.inr (.inr hi)))
      · have hd : decide ((2000 : Int) ≤ (M.length : Int)) = true := by simp; omega
        have HI := Lib.hid hI
        clear hI
        go_wp2_with fail
        go_ret
        have hw := HW.out
        rw [HR.out, if_neg (by simp), if_neg hlen] at hw
        rw [hw]
        exact ⟨rfl, H.out.same hK⟩

theorem rwrite_any (p : Nat) (s1 s2 s3 : Value) (S : List Sig) (M : List Made) (T : List Int) (m : Mac) (y : Int) (w : World) (hl : M.length ≤ 2000) (h : RefIs w p s1 s2 s3 S M T) (hm : macOk m) :
    Calls Try.prog 14 #[.pointer (some ⟨p, 0, none⟩), macV m, .int .i64 y] w fun e w' => e = .returned (.int .i64 (writeR M m y).1) ∧ RefStep w w' p s1 s2 s3 S (writeR M m y).2 T := by
  obtain ⟨a, wy, sq, s⟩ := m
  by_cases hok : writeOk a wy sq y
  · exact rwrite_yes p s1 s2 s3 S M T a wy sq s y w hl h hok hm.1
  · have e1 : writeR M (a, wy, sq, s) y = (1, M) := if_neg hok
    rw [e1]
    exact (rwrite_no p a wy sq s y w hok hm.1).mono fun e w' ⟨he, hK⟩ => ⟨he, h.same hK⟩
end Go.Proofs.Ytkldepflfomegaa
