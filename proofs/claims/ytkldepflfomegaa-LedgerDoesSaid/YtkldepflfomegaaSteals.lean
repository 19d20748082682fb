/- The law LedgerSteals: the walk. -/
import Derived.Test.YtkldepflfomegaaAwake
namespace Go.Proofs.Ytkldepflfomegaa
open Go.RowKit
open Go.Maps (Keyed)

theorem BookAt.tight {w : World} {F : Nat → Prop} {p : Nat} {S : List Sig} {M : List Made} {T : List Int} (h : BookAt w F p S M T) : BookAt w (fun k => F k ∧ k < w.heap.size) p S M T := by
  obtain ⟨s1, m1, s2, m2, s3, m3, hb, hf⟩ := h
  refine ⟨s1, m1, s2, m2, s3, m3, hb, fun k hk => ⟨hf k hk, ?_⟩⟩
  rcases hk with rfl | hk | hk | hk
  · exact hb.blk.lt
  · exact row_lt hb.r1 k hk
  · exact row_lt hb.r2 k hk
  · exact row_lt hb.r3 k hk

/-- The acts that sign or write, done. -/
def doneS (x : Act_) (S : List Sig) : List Sig := if x.kind = 0 then (signR S x.key x.mac.2.2.2).2 else S
theorem signR_len (S : List Sig) (k : Int) (b : ByteArray) : (signR S k b).2.length ≤ S.length + 1 := by
  unfold signR
  repeat' split
  all_goals simp
theorem writeR_len (M : List Made) (m : Mac) (y : Int) : (writeR M m y).2.length ≤ M.length + 1 := by
  unfold writeR
  repeat' split
  all_goals simp

theorem act_cells {w : World} {b o j : Nat} {kind key a wy sq y : Int} {s : ByteArray} (hc : ∀ i, i < 7 → w.cell? ⟨b, o + j * 7 + i, none⟩ = (actV ⟨kind, key, (a, wy, sq, s), y⟩).cells[i]?) :
    w.cell? ⟨b, o + j * 7, none⟩ = some (.int .i64 kind) ∧ w.cell? ⟨b, o + j * 7 + 1, none⟩ = some (.int .u16 key) ∧ w.cell? ⟨b, o + j * 7 + 2, none⟩ = some (.int .u16 a) ∧ w.cell? ⟨b, o + j * 7 + 3, none⟩ = some (.int .i64 wy) ∧
    w.cell? ⟨b, o + j * 7 + 4, none⟩ = some (.int .i64 sq) ∧ w.cell? ⟨b, o + j * 7 + 5, none⟩ = some (.string s) ∧ w.cell? ⟨b, o + j * 7 + 6, none⟩ = some (.int .i64 y) :=
  ⟨hc 0 (by omega), hc 1 (by omega), hc 2 (by omega), hc 3 (by omega), hc 4 (by omega), hc 5 (by omega), hc 6 (by omega)⟩

/-- All that has come since B. -/
def From (B k : Nat) : Prop := B ≤ k
theorem From.cell {B : Nat} {w w' : World} (h : Turned (From B) w w') {p : Addr} {v : Value} (hp : p.block < B) (hB : B ≤ w.heap.size) (hc : w.cell? p = some v) : w'.cell? p = some v :=
  (h.cell (by omega) (fun e => absurd e (by unfold From; omega))).trans hc
theorem From.up {B n : Nat} (h : B ≤ n) : ∀ k, n ≤ k → From B k := fun _ hk => Nat.le_trans h hk

theorem strs_flat (xs : List ByteArray) : (xs.map Value.string).flatMap (·.cells.toList) = xs.map Value.string := by
  induction xs with
  | nil => rfl
  | cons x xs ih => simp only [List.map_cons, List.flatMap_cons, ih]; rfl
theorem reads_strs {w : World} {base c : Nat} {A : Option Addr} {xs : List ByteArray} (h : w.ownsRow base 9 1 (.slice A xs.length c) xs.length (xs.map .string)) : ReadsT .string w w.heap.size 1 A xs :=
  ReadsT.of_own (e := 9) (c := c) (base := base) (fun _ => rfl) (by rw [strs_flat]; exact h)
/-- .. but for the block of one slice. -/
def FromBut (B : Nat) (v : Value) (k : Nat) : Prop := B ≤ k ∧ v.ownBlock ≠ some k
theorem FromBut.up {B n : Nat} {v : Value} (h : B ≤ n) (hv : ∀ g, v.ownBlock = some g → g < n) : ∀ k, n ≤ k → FromBut B v k := fun k hk => ⟨Nat.le_trans h hk, fun e => by have := hv k e; omega⟩

set_option maxRecDepth 100000 in
set_option maxHeartbeats 4000000 in
theorem steals_walk (A : Option Addr) (c : Nat) (l : List Act_) (a0 : Int) (w : World) (hl : l.length ≤ 9223372036854775807) (hr : ReadsT actV w w.heap.size 7 A l) (hok : ∀ x ∈ l, actOk x) (ha : u16 a0) :
    Calls Try.prog 7 #[.slice A l.length c, .int .u16 a0] w fun e w' => e = .returned (.bool true) ∧ Kept w w' := by
  go_enter Try.func7, Try.ntmps7
  go_wp2_with fail
  refine (awake_any _).mono ?_
  rintro e w1 ⟨rfl, hK1⟩
  go_wp2_with fail
  have C := large_any A c w.heap.size l w1 hl (hr.below (fun k hk => hK1.block k hk (fun h => h)))
  obtain ⟨lg, hlg⟩ : ∃ b, b = largeR l := ⟨_, rfl⟩
  rw [← hlg] at C
  refine C.mono ?_
  rintro e w' ⟨rfl, rfl⟩
  clear C hlg
  rcases Bool.eq_false_or_eq_true lg with rfl | rfl
  · go_wp2_with fail
    go_ret
    exact ⟨rfl, hK1⟩
  go_wp2_with fail
  refine (new_any _).mono ?_
  rintro e w2 ⟨rfl, hB0, hK2, hs2⟩
  have hsz1 := hK1.size
  have hT2 : Turned (From w.heap.size) w w2 := (hK1.then_ hK2 (fun _ _ h => h)).mono (fun _ _ h => h.elim)
  have hB2 : BookAt w2 (From w.heap.size) w1.heap.size [] [] [] := hB0.wider (fun k hk => by subst hk; exact hsz1)
  clear hB0 hs2 hK2
  go_wp2_with fail
  go_loopg [6] l.length (fun gk i wr => ∃ (j : Nat) (S : List Sig) (M : List Made), j + gk = l.length ∧ j ≤ 200 ∧ i = .int .i64 j ∧ BookAt wr (From w.heap.size) w1.heap.size S M [] ∧ S.length ≤ j ∧ M.length ≤ j ∧ Turned (From w.heap.size) w wr)
  case atStart => exact ⟨0, [], [], Nat.zero_add _, by omega, rfl, hB2, by simp, by simp, hT2⟩
  case round =>
    obtain ⟨j, S, M, hj, hj2, rfl, hB, hSl, hMl, hT⟩ := hrel
    have hsz := hT.size
    clear hB2 hT2
    by_cases hjl : j < l.length ∧ j < 200
    · obtain ⟨hjl, hj3⟩ := hjl
      obtain ⟨b, o, rfl, hb, hc⟩ := (hr.below (w' := wr) (fun k hk => hT.block k hk (fun h => absurd h (by unfold From; omega)))) j hjl
      obtain ⟨⟨kind, key, ⟨a, wy, sq, s⟩, y⟩, hx⟩ : ∃ x, x = l[j] := ⟨_, rfl⟩
      have hok1 : actOk ⟨kind, key, (a, wy, sq, s), y⟩ := by rw [hx]; exact hok _ (List.getElem_mem hjl)
      rw [← hx] at hc
      obtain ⟨c0, c1, c2, c3, c4, c5, c6⟩ := act_cells hc
      clear hc hx hr hok
      have hi3 : (j : Int) < 200 := by omega
      have hi4 : (j : Int) < (l.length : Int) := by omega
      have hi0 : (0 : Int) ≤ (j : Int) := by omega
      obtain ⟨_, ok1, ok2, ok3⟩ := hok1
      by_cases hk0 : kind = 0
      · have d0 : (kind == 0) = true := by simpa using hk0
        clear hk0
        go_wp2_with fail
        have C := Lib.hid (sign_u (b := s) (S' := (signR S key s).2) (c := (signR S key s).1) (hB.kept ((Turned.refl _ wr).drew)) (From.up hsz) ok1 ok2.2.2.2 (by omega) rfl)
        go_region_held3 (fun W => W.cell? ⟨b, o + j * 7 + 1, none⟩ = some (.int .u16 key) ∧ W.cell? ⟨b, o + j * 7 + 5, none⟩ = some (.string s))
          (first
            | exact ⟨c1, c5⟩
            | exact ⟨From.cell hT5 hb hsz c1, From.cell hT5 hb hsz c5⟩)
          (first
            | (go_at_call 11; refine C.out.mono ?_; rintro e w5 ⟨rfl, hB5, hT5⟩))
        have hS5 := signR_len S key s
        replace hT5 := hT.drew.then_ hT5 (fun _ _ h => h)
        clear C hB hT c0 c1 c2 c3 c4 c5 c6
        go_wp2_with fail
        go_roundg (gk - 1)
        case measure => omega
        case rel => exact ⟨j + 1, _, M, by omega, by omega, by go_num, hB5, by omega, by omega, hT5⟩
      · have d0 : (kind == 0) = false := by simpa using hk0
        clear hk0
        by_cases hk1 : kind = 1
        · have d1 : (kind == 1) = true := by simpa using hk1
          clear hk1
          go_wp2_with fail
          have C := Lib.hid (write_u (m := (a, wy, sq, s)) (y := y) (M' := (writeR M (a, wy, sq, s) y).2) (c := (writeR M (a, wy, sq, s) y).1) (hB.kept ((Turned.refl _ wr).drew)) (From.up hsz) ok2 ok3 (by omega) rfl)
          go_region_held3 (fun W => W.cell? ⟨b, o + j * 7 + 2, none⟩ = some (.int .u16 a) ∧ W.cell? ⟨b, o + j * 7 + 3, none⟩ = some (.int .i64 wy) ∧ W.cell? ⟨b, o + j * 7 + 4, none⟩ = some (.int .i64 sq) ∧ W.cell? ⟨b, o + j * 7 + 5, none⟩ = some (.string s) ∧ W.cell? ⟨b, o + j * 7 + 6, none⟩ = some (.int .i64 y))
            (first
              | exact ⟨c2, c3, c4, c5, c6⟩
              | exact ⟨From.cell hT5 hb hsz c2, From.cell hT5 hb hsz c3, From.cell hT5 hb hsz c4, From.cell hT5 hb hsz c5, From.cell hT5 hb hsz c6⟩)
            (first
              | (go_at_call 13; refine C.out.mono ?_; rintro e w5 ⟨rfl, hB5, hT5⟩))
          have hM5 := writeR_len M (a, wy, sq, s) y
          replace hT5 := hT.drew.then_ hT5 (fun _ _ h => h)
          clear C hB hT c0 c1 c2 c3 c4 c5 c6
          go_wp2_with fail
          go_roundg (gk - 1)
          case measure => omega
          case rel => exact ⟨j + 1, S, _, by omega, by omega, by go_num, hB5, by omega, by omega, hT5⟩
        · have d1 : (kind == 1) = false := by simpa using hk1
          clear hk1
          go_wp2_with fail
          go_roundg (gk - 1)
          case measure => omega
          case rel => exact ⟨j + 1, S, M, by omega, by omega, by go_num, hB, by omega, by omega, hT⟩
    · have hend : l.length ≤ j ∨ (j < l.length ∧ decide ((j : Int) < 200) = false) := by
        by_cases h : j < l.length
        · exact .inr ⟨h, by simp; omega⟩
        · exact .inl (by omega)
      clear hr hjl hok
      have h0 := ha.1
      have h1 := ha.2
      rcases hend with hend | ⟨hend1, hend2⟩
      all_goals
        go_wp2_with fail
        refine (len_any _ _ _ _ _ _ hB).mono ?_
        rintro e w3 ⟨rfl, hK3⟩
        have hB3 := (hB.kept hK3).tight
        replace hT := hT.then_ hK3 (fun _ _ h => h.elim)
        have hsz3 := hT.size
        clear hB hK3
        go_wp2_with fail
        refine (bodies_any _ _ _ _ _ a0 _ (by omega) hB3).mono ?_
        rintro e w4 ⟨v, rfl, hown, hK4⟩
        obtain ⟨A4, c4, rfl⟩ := own_slice hown
        have hB4 : BookAt w4 (FromBut w.heap.size (.slice A4 (bodiesOf S a0).length c4)) w1.heap.size S M [] := (hB3.kept hK4).wider (fun k hk => ⟨hk.1, fun e => by have := own_base hown e; have := hk.2; omega⟩)
        replace hT := hT.then_ hK4 (fun _ _ h => h.elim)
        have hsz4 := hT.size
        clear hB3 hK4
        have hup : ∀ k, w4.heap.size ≤ k → FromBut w.heap.size (.slice A4 (bodiesOf S a0).length c4) k := FromBut.up hsz4 (fun g hg => own_lt hown hg)
        by_cases hkk : a0 / 8192 = 1 ∨ a0 / 8192 = 2
        · have er : stealR [] a0 = (0, [a0]) := by unfold stealR; rw [if_pos hkk]; rfl
          have ek : ((a0 / 8192 == 1) = true) ∨ ((a0 / 8192 == 1) = false ∧ (a0 / 8192 == 2) = true) := by
            rcases hkk with h | h
            · exact .inl (by simp [h])
            · exact .inr ⟨by simp [h], by simp [h]⟩
          have C := Lib.hid (steal_u hB4 hup ha (by simp) er)
          clear hkk er
          rcases ek with ek | ⟨ek1, ek2⟩
          all_goals
            go_wp2_with fail
            refine C.out.mono ?_
            rintro e w5 ⟨rfl, hB5, hT5⟩
            have hown5 := own_turned hown hT5 (fun g hg h => h.2 hg)
            replace hT5 := hT.then_ (hT5.mono (fun _ _ h => h.1)) (fun _ _ h => h)
            clear C
            go_wp2_with fail
            refine (stolen_any _ _ _ _ _ a0 _ ha hB5).mono ?_
            rintro e w6 ⟨he, hK6⟩
            rw [show hasB a0 [a0] = true by simp [hasB]] at he
            subst he
            have hB6 := hB5.kept hK6
            have hown6 := own_turned hown5 hK6 (fun _ _ h => h)
            have hT6 := hT5.then_ hK6 (fun _ _ h => h.elim)
            clear hB5 hT5 hK6 hown5
            go_wp2_with fail
            refine (len_any _ _ _ _ _ _ hB6).mono ?_
            rintro e w7 ⟨rfl, hK7⟩
            have hB7 := hB6.kept hK7
            have hown7 := own_turned hown6 hK7 (fun _ _ h => h)
            have hT7 := hT6.then_ hK7 (fun _ _ h => h.elim)
            clear hB6 hT6 hK7 hown6
            rw [show (([a0] : List Int).length : Int) = 1 from rfl]
            go_wp2_with fail
            refine (bodies_any _ _ _ _ _ a0 _ (by omega) hB7).mono ?_
            rintro e w8 ⟨v8, rfl, hown8, hK8⟩
            obtain ⟨A8, c8, rfl⟩ := own_slice hown8
            have hown9 := own_turned hown7 hK8 (fun _ _ h => h)
            have hT8 := hT7.then_ hK8 (fun _ _ h => h.elim)
            have D := Lib.hid (texts_any A8 A4 c8 c4 _ _ (bodiesOf S a0) (bodiesOf S a0) w8 (by have := bodies_le S a0; omega) (by have := bodies_le S a0; omega) (reads_strs hown8) (reads_strs hown9))
            clear hB7 hT7 hK8 hown8 hown9 hown7
            rw [decide_eq_true (rfl : bodiesOf S a0 = bodiesOf S a0)] at D
            go_wp2_with fail
            refine D.out.mono ?_
            rintro e w9 ⟨rfl, n9, rfl⟩
            go_wp2_with fail
            go_ret
            exact ⟨rfl, (hT8.drewN n9).mono (fun k hk h => by unfold From at h; omega)⟩
        · have er : stealR [] a0 = (1, []) := if_neg hkk
          have ek1 : (a0 / 8192 == 1) = false := by simpa using fun h => hkk (.inl h)
          have ek2 : (a0 / 8192 == 2) = false := by simpa using fun h => hkk (.inr h)
          have C := Lib.hid (steal_u hB4 hup ha (by simp) er)
          clear hkk er
          go_wp2_with fail
          refine C.out.mono ?_
          rintro e w5 ⟨rfl, hB5, hT5⟩
          have hown5 := own_turned hown hT5 (fun g hg h => h.2 hg)
          replace hT5 := hT.then_ (hT5.mono (fun _ _ h => h.1)) (fun _ _ h => h)
          clear C
          go_wp2_with fail
          refine (stolen_any _ _ _ _ _ a0 _ ha hB5).mono ?_
          rintro e w6 ⟨he, hK6⟩
          rw [show hasB a0 [] = false from rfl] at he
          subst he
          have hB6 := hB5.kept hK6
          have hown6 := own_turned hown5 hK6 (fun _ _ h => h)
          have hT6 := hT5.then_ hK6 (fun _ _ h => h.elim)
          clear hB5 hT5 hK6 hown5
          go_wp2_with fail
          refine (len_any _ _ _ _ _ _ hB6).mono ?_
          rintro e w7 ⟨rfl, hK7⟩
          have hB7 := hB6.kept hK7
          have hown7 := own_turned hown6 hK7 (fun _ _ h => h)
          have hT7 := hT6.then_ hK7 (fun _ _ h => h.elim)
          clear hB6 hT6 hK7 hown6
          rw [show (([] : List Int).length : Int) = 0 from rfl]
          go_wp2_with fail
          refine (bodies_any _ _ _ _ _ a0 _ (by omega) hB7).mono ?_
          rintro e w8 ⟨v8, rfl, hown8, hK8⟩
          obtain ⟨A8, c8, rfl⟩ := own_slice hown8
          have hown9 := own_turned hown7 hK8 (fun _ _ h => h)
          have hT8 := hT7.then_ hK8 (fun _ _ h => h.elim)
          have D := Lib.hid (texts_any A8 A4 c8 c4 _ _ (bodiesOf S a0) (bodiesOf S a0) w8 (by have := bodies_le S a0; omega) (by have := bodies_le S a0; omega) (reads_strs hown8) (reads_strs hown9))
          clear hB7 hT7 hK8 hown8 hown9 hown7
          rw [decide_eq_true (rfl : bodiesOf S a0 = bodiesOf S a0)] at D
          go_wp2_with fail
          refine D.out.mono ?_
          rintro e w9 ⟨rfl, n9, rfl⟩
          go_wp2_with fail
          go_ret
          exact ⟨rfl, (hT8.drewN n9).mono (fun k hk h => by unfold From at h; omega)⟩
end Go.Proofs.Ytkldepflfomegaa
