/- The contracts of ledger's New, kind, Sign, Signed, Write, Steal, Stolen, Len. -/
import Derived.Test.YtkldepflfomegaaBook
import Derived.Deep.QuietTactic
import Derived.BigQuiet
namespace Go.Proofs.Ytkldepflfomegaa
open Go.RowKit
open Go.Maps (Keyed)

/-! ### what they come to -/
def signR (S : List Sig) (k : Int) (b : ByteArray) : Int × List Sig :=
  if k / 8192 = 1 then (if hasB (k, b) S then (0, S) else if S.length < 2000 then (0, S ++ [(k, b)]) else (3, S)) else (1, S)
def writeR (M : List Made) (m : Mac) (y : Int) : Int × List Made :=
  if m.1 / 8192 = 2 ∧ (m.2.1 = 0 ∨ m.2.1 = 1) ∧ 0 ≤ m.2.2.1 ∧ 0 ≤ y then (if hasB (m, y) M then (0, M) else if M.length < 2000 then (0, M ++ [(m, y)]) else (3, M)) else (1, M)
def stealR (T : List Int) (a : Int) : Int × List Int :=
  if a / 8192 = 1 ∨ a / 8192 = 2 then (0, if hasB a T then T else T ++ [a]) else (1, T)

set_option maxHeartbeats 400000 in
theorem new_any (w : World) : Calls Try.prog 10 #[] w fun e w' => e = .returned (.pointer (some ⟨w.heap.size, 0, none⟩)) ∧ BookAt w' (fun k => k = w.heap.size) w.heap.size [] [] [] ∧ Kept w w' ∧ w'.heap.size = w.heap.size + 1 := by
  go_enter Try.func10, Try.ntmps10
  go_wp2
  go_ret
  refine ⟨rfl, ⟨.slice none 0 0, .map none, .slice none 0 0, .map none, .slice none 0 0, .map none, ⟨Blk.new w _ _, ⟨⟨by simp, .inl ⟨rfl, rfl⟩⟩, .inl ⟨rfl, rfl⟩⟩, ⟨⟨by simp, .inl ⟨rfl, rfl⟩⟩, .inl ⟨rfl, rfl⟩⟩, ⟨⟨by simp, .inl ⟨rfl, rfl⟩⟩, .inl ⟨rfl, rfl⟩⟩, by simp, by simp, by simp⟩, ?_⟩, (Turned.refl _ w).alloc _, by simp⟩
  rintro k (h | h | h | h)
  · exact h
  all_goals simp [Value.ownBlock] at h

set_option maxHeartbeats 400000 in
theorem kind_any (a : Int) (h0 : 0 ≤ a) (h1 : a ≤ 65535) (w : World) : Calls Try.prog 30 #[.int .u16 a] w fun e w' => e = .returned (.int .i64 (a / 8192)) ∧ w = w' := by
  go_enter Try.func30, Try.ntmps30
  go_wp2
  go_ret
  exact ⟨rfl, rfl⟩

theorem sign_code {S : List Sig} {k : Int} {b : ByteArray} (h : k / 8192 = 1) : (signR S k b).1 = putCode (hasB (k, b) S) (S.map sigV).length := by
  unfold signR putCode
  rw [if_pos h, List.length_map]
  split
  · rfl
  · split <;> rfl
theorem sign_list {S : List Sig} {k : Int} {b : ByteArray} (h : k / 8192 = 1) : (signR S k b).2.map sigV = putList (hasB (k, b) S) (S.map sigV) (.agg #[.int .u16 k, .string b]) := by
  unfold signR putList
  rw [if_pos h, List.length_map]
  split
  · rfl
  · split
    · rw [List.map_append]; rfl
    · rfl
theorem write_code {M : List Made} {m : Mac} {y : Int} (h : m.1 / 8192 = 2 ∧ (m.2.1 = 0 ∨ m.2.1 = 1) ∧ 0 ≤ m.2.2.1 ∧ 0 ≤ y) : (writeR M m y).1 = putCode (hasB (m, y) M) (M.map madeV).length := by
  unfold writeR putCode
  rw [if_pos h, List.length_map]
  split
  · rfl
  · split <;> rfl
theorem write_list {M : List Made} {m : Mac} {y : Int} (h : m.1 / 8192 = 2 ∧ (m.2.1 = 0 ∨ m.2.1 = 1) ∧ 0 ≤ m.2.2.1 ∧ 0 ≤ y) : (writeR M m y).2.map madeV = putList (hasB (m, y) M) (M.map madeV) (.agg #[.int .u16 m.1, .int .i64 m.2.1, .int .i64 m.2.2.1, .string m.2.2.2, .int .i64 y]) := by
  unfold writeR putList
  rw [if_pos h, List.length_map]
  split
  · rfl
  · split
    · rw [List.map_append]; rfl
    · rfl
theorem ret_int {k : IntKind} {a b : Int} (h : a = b) : Ending.returned (.int k a) = .returned (.int k b) := by rw [h]
set_option maxHeartbeats 400000 in
theorem sign_any (F : Nat → Prop) (p : Nat) (S : List Sig) (M : List Made) (T : List Int) (k : Int) (b : ByteArray) (w : World) (hk : u16 k) (hb : b.size ≤ maxLen) (hl : S.length ≤ 2000) (h : BookAt w F p S M T) :
    Calls Try.prog 11 #[.pointer (some ⟨p, 0, none⟩), .int .u16 k, .string b] w fun e w' => e = .returned (.int .i64 (signR S k b).1) ∧ BookAt w' (Grow F w w') p (signR S k b).2 M T ∧ Turned F w w' := by
  have h0 := hk.1
  have h1 := hk.2
  have hK := isK_sig hk hb
  by_cases hkk : k / 8192 = 1
  · have hd : (k / 8192 != 1) = false := by simp [hkk]
    have hlm : (S.map sigV).length ≤ 2000 := by simpa using hl
    obtain ⟨s1, m1, s2, m2, s3, m3, hB, hf⟩ := h
    have C := Lib.hid (sig_put p 0 79 #[s1, m1, s2, m2, s3, m3] s1 m1 (S.map sigV) k b w (hasB (k, b) S) (by decide) hB.blk rfl rfl hB.r1 (dec_mem sigV_inj) hK hlm)
    rw [← sign_code hkk, ← sign_list hkk] at C
    clear hkk hK hb hk
    go_enter Try.func11, Try.ntmps11
    go_wp2_with (first | (go_at_call 30; refine (kind_any _ (by omega) (by omega) _).mono ?_; rintro e w' ⟨rfl, rfl⟩) | (go_at_call 31; refine C.out.mono ?_; rintro e w2 ⟨rfl, hN⟩; have HN := Lib.hid hN; clear hN C))
    go_ret
    exact ⟨rfl, book_next1 hB hf HN.out⟩
  · have hd : (k / 8192 != 1) = true := by simp [hkk]
    have e1 : signR S k b = (1, S) := if_neg hkk
    rw [e1]
    clear hkk
    go_enter Try.func11, Try.ntmps11
    go_wp2_with (go_at_call 30; refine (kind_any _ (by omega) (by omega) _).mono ?_; rintro e w' ⟨rfl, rfl⟩)
    go_ret
    exact ⟨rfl, h.wider (fun _ h => .inl h), Turned.refl _ _⟩

set_option maxHeartbeats 400000 in
theorem signed_any (F : Nat → Prop) (p : Nat) (S : List Sig) (M : List Made) (T : List Int) (k : Int) (b : ByteArray) (w : World) (hk : u16 k) (hb : b.size ≤ maxLen) (h : BookAt w F p S M T) :
    Calls Try.prog 19 #[.pointer (some ⟨p, 0, none⟩), .int .u16 k, .string b] w fun e w' => e = .returned (.bool (hasB (k, b) S)) ∧ Kept w w' := by
  have hK := isK_sig hk hb
  obtain ⟨s1, m1, s2, m2, s3, m3, hB, hf⟩ := h
  have C := Lib.hid (sig_has p 0 m1 (S.map sigV) k b w (hasB (k, b) S) (hB.blk.cell 1) hB.r1.set (dec_mem sigV_inj) hK)
  generalize hasB (k, b) S = r at C ⊢
  clear hK hb hk
  go_enter Try.func19, Try.ntmps19
  go_wp2_with (first | (go_at_call 34; refine C.out.mono ?_; rintro e w2 ⟨rfl, hN⟩))
  go_ret
  exact ⟨rfl, hN⟩

set_option maxHeartbeats 400000 in
theorem stolen_any (F : Nat → Prop) (p : Nat) (S : List Sig) (M : List Made) (T : List Int) (k : Int) (w : World) (hk : u16 k) (h : BookAt w F p S M T) :
    Calls Try.prog 21 #[.pointer (some ⟨p, 0, none⟩), .int .u16 k] w fun e w' => e = .returned (.bool (hasB k T)) ∧ Kept w w' := by
  have hK := isK_atom hk
  obtain ⟨s1, m1, s2, m2, s3, m3, hB, hf⟩ := h
  have C := Lib.hid (atom_has p 4 m3 (T.map atomV) k w (hasB k T) (hB.blk.cell 5) hB.r3.set (dec_mem atomV_inj) hK)
  generalize hasB k T = r at C ⊢
  clear hK hk
  go_enter Try.func21, Try.ntmps21
  go_wp2_with (first | (go_at_call 35; refine C.out.mono ?_; rintro e w2 ⟨rfl, hN⟩))
  go_ret
  exact ⟨rfl, hN⟩

theorem steal_list {T : List Int} {a : Int} (h : a / 8192 = 1 ∨ a / 8192 = 2) : (stealR T a).2.map atomV = (if hasB a T then T.map atomV else T.map atomV ++ [.int .u16 a]) := by
  unfold stealR
  rw [if_pos h]
  show (if hasB a T = true then T else T ++ [a]).map atomV = _
  split
  · rfl
  · rw [List.map_append]; rfl

set_option maxHeartbeats 400000 in
theorem steal_any (F : Nat → Prop) (p : Nat) (S : List Sig) (M : List Made) (T : List Int) (a : Int) (w : World) (hk : u16 a) (hl : T.length < 3000) (h : BookAt w F p S M T) :
    Calls Try.prog 15 #[.pointer (some ⟨p, 0, none⟩), .int .u16 a] w fun e w' => e = .returned (.int .i64 (stealR T a).1) ∧ BookAt w' (Grow F w w') p S M (stealR T a).2 ∧ Turned F w w' := by
  have h0 := hk.1
  have h1 := hk.2
  have hK := isK_atom hk
  by_cases hkk : a / 8192 = 1 ∨ a / 8192 = 2
  · have e1 : (stealR T a).1 = 0 := by unfold stealR; rw [if_pos hkk]
    have hlm : (T.map atomV).length < 3000 := by simpa using hl
    obtain ⟨s1, m1, s2, m2, s3, m3, hB, hf⟩ := h
    have C := Lib.hid (atom_add p 4 79 #[s1, m1, s2, m2, s3, m3] s3 m3 (T.map atomV) a w (hasB a T) (by decide) hB.blk rfl rfl hB.r3 (dec_mem atomV_inj) hK hlm)
    rw [← steal_list hkk] at C
    rw [e1]
    clear e1 hK hk
    rcases hkk with hkk | hkk
    · have hd : (a / 8192 != 1) = false := by simp [hkk]
      clear hkk
      go_enter Try.func15, Try.ntmps15
      go_wp2_with (first | (go_at_call 30; refine (kind_any _ (by omega) (by omega) _).mono ?_; rintro e w' ⟨rfl, rfl⟩) | (go_at_call 33; refine C.out.mono ?_; rintro e w2 ⟨rfl, hN⟩; have HN := Lib.hid hN; clear hN C))
      go_ret
      exact ⟨rfl, book_next3 hB hf HN.out⟩
    · have hd : (a / 8192 != 1) = true := by simp [hkk]
      have hd2 : (a / 8192 != 2) = false := by simp [hkk]
      clear hkk
      go_enter Try.func15, Try.ntmps15
      go_wp2_with (first | (go_at_call 30; refine (kind_any _ (by omega) (by omega) _).mono ?_; rintro e w' ⟨rfl, rfl⟩) | (go_at_call 33; refine C.out.mono ?_; rintro e w2 ⟨rfl, hN⟩; have HN := Lib.hid hN; clear hN C))
      go_ret
      exact ⟨rfl, book_next3 hB hf HN.out⟩
  · have hd : (a / 8192 != 1) = true := by simpa using fun h => hkk (.inl h)
    have hd2 : (a / 8192 != 2) = true := by simpa using fun h => hkk (.inr h)
    have e1 : stealR T a = (1, T) := if_neg hkk
    rw [e1]
    clear hkk
    go_enter Try.func15, Try.ntmps15
    go_wp2_with (first | (go_at_call 30; refine (kind_any _ (by omega) (by omega) _).mono ?_; rintro e w' ⟨rfl, rfl⟩))
    go_ret
    exact ⟨rfl, h.wider (fun _ h => .inl h), Turned.refl _ _⟩

set_option maxHeartbeats 400000 in
theorem len_any (F : Nat → Prop) (p : Nat) (S : List Sig) (M : List Made) (T : List Int) (w : World) (h : BookAt w F p S M T) :
    Calls Try.prog 18 #[.pointer (some ⟨p, 0, none⟩)] w fun e w' => e = .returned (.tuple #[.int .i64 (S.length : Int), .int .i64 (M.length : Int), .int .i64 (T.length : Int)]) ∧ Kept w w' := by
  obtain ⟨s1, m1, s2, m2, s3, m3, hB, hf⟩ := h
  obtain ⟨A1, c1, rfl⟩ := own_slice hB.r1.own
  obtain ⟨A2, c2, rfl⟩ := own_slice hB.r2.own
  obtain ⟨A3, c3, rfl⟩ := own_slice hB.r3.own
  have hlt := hB.blk.lt
  have q0 := hB.blk.cell 0
  have q2 := hB.blk.cell 2
  have q4 := hB.blk.cell 4
  simp at q0 q2 q4
  clear hB hf
  go_enter Try.func18, Try.ntmps18
  go_wp2_with fail
  go_quiet (fail)
  go_wp2
  go_ret3
  exact ⟨rfl, (Turned.refl _ w).drewN _⟩
end Go.Proofs.Ytkldepflfomegaa
