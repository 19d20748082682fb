/- The contract of ledger's Write. -/
import Derived.Test.YtkldepflfomegaaOps
import Derived.Deep.RegionWith
namespace Go.Proofs.Ytkldepflfomegaa
open Go.RowKit
open Go.Maps (Keyed)

theorem BookIs.kept {w w' : World} {p : Nat} {s1 m1 s2 m2 s3 m3 : Value} {S : List Sig} {M : List Made} {T : List Int} (h : BookIs w p s1 m1 s2 m2 s3 m3 S M T) (hK : Kept w w') : BookIs w' p s1 m1 s2 m2 s3 m3 S M T :=
  ⟨h.blk.turned hK (fun h => h), row_stays h.r1 hK (fun _ _ h => h), row_stays h.r2 hK (fun _ _ h => h), row_stays h.r3 hK (fun _ _ h => h), h.d12, h.d13, h.d23⟩
theorem Grow.before {F : Nat → Prop} {w w1 w' : World} {k : Nat} (h : Grow F w1 w' k) (hK : w.heap.size ≤ w1.heap.size) : Grow F w w' k := h.imp id (fun h => ⟨Nat.le_trans hK h.1, h.2⟩)

def writeOk (a wy sq y : Int) : Prop := a / 8192 = 2 ∧ (wy = 0 ∨ wy = 1) ∧ 0 ≤ sq ∧ 0 ≤ y

set_option maxHeartbeats 1000000 in
theorem write_no (a wy sq : Int) (s : ByteArray) (y : Int) (p : Nat) (w : World) (h0 : 0 ≤ a) (h1 : a ≤ 65535) (h : ¬ writeOk a wy sq y) :
    Calls Try.prog 13 #[.pointer (some ⟨p, 0, none⟩), .agg #[.int .u16 a, .int .i64 wy, .int .i64 sq, .string s], .int .i64 y] w fun e w' => e = .returned (.int .i64 1) ∧ Kept w w' := by
  unfold writeOk at h
  by_cases ha : a / 8192 = 2
  · have d1 : (a / 8192 != 2) = false := by simp [ha]
    by_cases hw : wy = 0 ∨ wy = 1
    · by_cases hs : sq < 0
      · have d4 : decide (sq < 0) = true := by simpa using hs
        rcases hw with hw | hw
        all_goals
          subst hw
          clear h ha hs
          go_enter Try.func13, Try.ntmps13
          go_wp2_with (first | (go_at_call 30; refine (kind_any _ (by omega) (by omega) _).mono ?_; rintro e w' ⟨rfl, rfl⟩))
          go_ret
          exact ⟨rfl, (Turned.refl _ w).alloc _⟩
      · have d4 : decide (sq < 0) = false := by simpa using hs
        have d5 : decide (y < 0) = true := by simpa using fun hy => h ⟨ha, hw, by omega, hy⟩
        rcases hw with hw | hw
        all_goals
          subst hw
          clear h ha hs
          go_enter Try.func13, Try.ntmps13
          go_wp2_with (first | (go_at_call 30; refine (kind_any _ (by omega) (by omega) _).mono ?_; rintro e w' ⟨rfl, rfl⟩))
          go_ret
          exact ⟨rfl, (Turned.refl _ w).alloc _⟩
    · have d2 : (wy != 0) = true := by simpa using fun h => hw (.inl h)
      have d3 : (wy != 1) = true := by simpa using fun h => hw (.inr h)
      clear h ha hw
      go_enter Try.func13, Try.ntmps13
      go_wp2_with (first | (go_at_call 30; refine (kind_any _ (by omega) (by omega) _).mono ?_; rintro e w' ⟨rfl, rfl⟩))
      go_ret
      exact ⟨rfl, (Turned.refl _ w).alloc _⟩
  · have d1 : (a / 8192 != 2) = true := by simpa using ha
    clear h ha
    go_enter Try.func13, Try.ntmps13
    go_wp2_with (first | (go_at_call 30; refine (kind_any _ (by omega) (by omega) _).mono ?_; rintro e w' ⟨rfl, rfl⟩))
    go_ret
    exact ⟨rfl, (Turned.refl _ w).alloc _⟩

set_option maxHeartbeats 1000000 in
theorem write_yes (R : Ending → World → Prop) (a wy sq : Int) (s : ByteArray) (y : Int) (p : Nat) (w : World) (h0 : 0 ≤ a) (h1 : a ≤ 65535) (h : writeOk a wy sq y)
    (C : Hid (Calls Try.prog 32 #[.pointer (some ⟨p, 2, none⟩), .agg #[.int .u16 a, .int .i64 wy, .int .i64 sq, .string s, .int .i64 y], .int .i64 2000] (w.alloc (.cells #[.int .u16 a, .int .i64 wy, .int .i64 sq, .string s] 36)).drew fun e w' => ∃ c, e = .returned (.int .i64 c) ∧ R (.returned (.int .i64 c)) w')) :
    Calls Try.prog 13 #[.pointer (some ⟨p, 0, none⟩), .agg #[.int .u16 a, .int .i64 wy, .int .i64 sq, .string s], .int .i64 y] w R := by
  obtain ⟨ha, hw, hs, hy⟩ := h
  have d1 : (a / 8192 != 2) = false := by simp [ha]
  have d4 : decide (sq < 0) = false := by simpa using hs
  have d5 : decide (y < 0) = false := by simpa using hy
  rcases hw with hw | hw
  all_goals
    subst hw
    clear ha
    go_enter Try.func13, Try.ntmps13
    go_wp2_with (first | (go_at_call 30; refine (kind_any _ (by omega) (by omega) _).mono ?_; rintro e w' ⟨rfl, rfl⟩))
    go_region_with (go_at_call 32; refine C.out.mono ?_; rintro e w2 ⟨c, rfl, hR⟩)
    all_goals go_wp2
    all_goals go_ret
    all_goals exact hR

theorem write_any (F : Nat → Prop) (p : Nat) (S : List Sig) (M : List Made) (T : List Int) (m : Mac) (y : Int) (w : World) (hm : macOk m) (hy : i64 y) (hl : M.length ≤ 2000) (h : BookAt w F p S M T) :
    Calls Try.prog 13 #[.pointer (some ⟨p, 0, none⟩), macV m, .int .i64 y] w fun e w' => e = .returned (.int .i64 (writeR M m y).1) ∧ BookAt w' (Grow F w w') p S (writeR M m y).2 T ∧ Turned F w w' := by
  obtain ⟨a, wy, sq, s⟩ := m
  obtain ⟨ha, hw, hs, hb⟩ := hm
  by_cases hok : writeOk a wy sq y
  · obtain ⟨s1, m1, s2, m2, s3, m3, hB, hf⟩ := h
    have hlm : (M.map madeV).length ≤ 2000 := by simpa using hl
    have hK : Kept w (w.alloc (.cells #[.int .u16 a, .int .i64 wy, .int .i64 sq, .string s] 36)).drew := ((Turned.refl _ w).alloc _).drew
    have hB' := hB.kept hK
    refine write_yes _ a wy sq s y p w ha.1 ha.2 hok (Lib.hid ((made_put p 2 79 #[s1, m1, s2, m2, s3, m3] s2 m2 (M.map madeV) a wy sq s y _ (hasB ((a, wy, sq, s), y) M) (by decide) hB'.blk rfl rfl hB'.r2 (dec_mem madeV_inj) (isK_made ha hw hs hb hy) hlm).mono ?_))
    rintro e w' ⟨rfl, hN⟩
    have e1 : (writeR M (a, wy, sq, s) y).1 = _ := write_code (M := M) (m := (a, wy, sq, s)) (y := y) hok
    have e2 : (writeR M (a, wy, sq, s) y).2.map madeV = _ := write_list (M := M) (m := (a, wy, sq, s)) (y := y) hok
    rw [← e2] at hN
    obtain ⟨h1, h2⟩ := book_next2 hB' hf hN
    exact ⟨_, rfl, ret_int e1.symm, h1.wider (fun k hk => hk.before hK.size), (hK.mono (fun _ _ h => h.elim)).then_ h2 (fun _ _ h => h)⟩
  · have e1 : writeR M (a, wy, sq, s) y = (1, M) := if_neg hok
    rw [e1]
    exact (write_no a wy sq s y p w ha.1 ha.2 hok).mono fun e w' ⟨he, hK⟩ => ⟨he, (h.kept hK).wider (fun _ h => .inl h), hK.mono (fun _ _ h => h.elim)⟩
end Go.Proofs.Ytkldepflfomegaa
