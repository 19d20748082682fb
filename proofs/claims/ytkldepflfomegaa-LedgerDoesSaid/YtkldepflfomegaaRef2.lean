/- The contracts of the reference's Sign and Steal. -/
import Derived.Test.YtkldepflfomegaaRef
namespace Go.Proofs.Ytkldepflfomegaa
open Go.RowKit
open Go.Maps (Keyed)

theorem info_rsig : (Try.prog.info? 85).map (fun i => (i.zero, i.size, i.bytes)) = some (some (.agg #[.int .u16 0, .string ⟨#[]⟩]), 2, 24) := by kernel_rfl

/-- One of the three rows has come to hold more. -/
theorem ref_next1 {w w3 : World} {p : Nat} {s1 s2 s3 : Value} {S : List Sig} {M : List Made} {T : List Int} {x : Sig} {O : Obj} {gg cap : Nat} (h : RefIs w p s1 s2 s3 S M T)
    (hg : (w.alloc O).grownBy w3 s1.ownBlock) (hO : w3.ownsRow 0 85 2 (.slice (some ⟨gg, 0, none⟩) (S.length + 1) cap) (S.length + 1) ((S.map sigV).flatMap (·.cells.toList) ++ (sigV x).cells.toList)) :
    RefIs (w3.setCell ⟨p, 0, none⟩ (.slice (some ⟨gg, 0, none⟩) (S.length + 1) cap)) p (.slice (some ⟨gg, 0, none⟩) (S.length + 1) cap) s2 s3 (S ++ [x]) M T ∧ Turned (fun i => i = p ∨ s1.ownBlock = some i) w (w3.setCell ⟨p, 0, none⟩ (.slice (some ⟨gg, 0, none⟩) (S.length + 1) cap)) := by
  have hT3 : Turned (fun i => s1.ownBlock = some i) w w3 := ((Turned.refl _ w).alloc O).grown hg (fun k h _ => h)
  have hT : Turned (fun i => i = p ∨ s1.ownBlock = some i) w (w3.setCell ⟨p, 0, none⟩ (.slice (some ⟨gg, 0, none⟩) (S.length + 1) cap)) := (hT3.mono (fun _ _ h => .inr h)).setCell (p := ⟨p, 0, none⟩) (fun _ => .inl rfl) _
  have hp1 : s1.ownBlock ≠ some p := own_blk_ne h.r1 h.blk (by decide)
  have B3 := h.blk.turned hT3 hp1
  refine ⟨⟨B3.set_ 0 _, ?_, own_turned h.r2 hT (fun g hg' e => ?_), own_turned h.r3 hT (fun g hg' e => ?_)⟩, hT⟩
  · have hne : gg ≠ p := fun e => own_blk_ne hO B3 (by decide) (by rw [e]; rfl)
    simp only [List.map_append, List.map_cons, List.map_nil, List.flatMap_append, List.flatMap_cons, List.flatMap_nil, List.append_nil, List.length_append, List.length_singleton]
    exact own_turned hO ((Turned.refl (fun i => i = p) w3).setCell (p := ⟨p, 0, none⟩) (fun _ => rfl) _) (fun g hg' e => hne (by subst e; simpa [Value.ownBlock] using hg'))
  · rcases e with e | e
    · exact own_blk_ne h.r2 h.blk (by decide) (e ▸ hg')
    · exact own_own_ne h.r1 h.r2 (by decide) e hg'
  · rcases e with e | e
    · exact own_blk_ne h.r3 h.blk (by decide) (e ▸ hg')
    · exact own_own_ne h.r1 h.r3 (by decide) e hg'
theorem ref_next2 {w w3 : World} {p : Nat} {s1 s2 s3 : Value} {S : List Sig} {M : List Made} {T : List Int} {x : Made} {O : Obj} {gg cap : Nat} (h : RefIs w p s1 s2 s3 S M T)
    (hg : (w.alloc O).grownBy w3 s2.ownBlock) (hO : w3.ownsRow 0 90 5 (.slice (some ⟨gg, 0, none⟩) (M.length + 1) cap) (M.length + 1) ((M.map madeV).flatMap (·.cells.toList) ++ (madeV x).cells.toList)) :
    RefIs (w3.setCell ⟨p, 1, none⟩ (.slice (some ⟨gg, 0, none⟩) (M.length + 1) cap)) p s1 (.slice (some ⟨gg, 0, none⟩) (M.length + 1) cap) s3 S (M ++ [x]) T ∧ Turned (fun i => i = p ∨ s2.ownBlock = some i) w (w3.setCell ⟨p, 1, none⟩ (.slice (some ⟨gg, 0, none⟩) (M.length + 1) cap)) := by
  have hT3 : Turned (fun i => s2.ownBlock = some i) w w3 := ((Turned.refl _ w).alloc O).grown hg (fun k h _ => h)
  have hT : Turned (fun i => i = p ∨ s2.ownBlock = some i) w (w3.setCell ⟨p, 1, none⟩ (.slice (some ⟨gg, 0, none⟩) (M.length + 1) cap)) := (hT3.mono (fun _ _ h => .inr h)).setCell (p := ⟨p, 1, none⟩) (fun _ => .inl rfl) _
  have hp1 : s2.ownBlock ≠ some p := own_blk_ne h.r2 h.blk (by decide)
  have B3 := h.blk.turned hT3 hp1
  refine ⟨⟨B3.set_ 1 _, own_turned h.r1 hT (fun g hg' e => ?_), ?_, own_turned h.r3 hT (fun g hg' e => ?_)⟩, hT⟩
  · rcases e with e | e
    · exact own_blk_ne h.r1 h.blk (by decide) (e ▸ hg')
    · exact own_own_ne h.r2 h.r1 (by decide) e hg'
  · have hne : gg ≠ p := fun e => own_blk_ne hO B3 (by decide) (by rw [e]; rfl)
    simp only [List.map_append, List.map_cons, List.map_nil, List.flatMap_append, List.flatMap_cons, List.flatMap_nil, List.append_nil, List.length_append, List.length_singleton]
    exact own_turned hO ((Turned.refl (fun i => i = p) w3).setCell (p := ⟨p, 1, none⟩) (fun _ => rfl) _) (fun g hg' e => hne (by subst e; simpa [Value.ownBlock] using hg'))
  · rcases e with e | e
    · exact own_blk_ne h.r3 h.blk (by decide) (e ▸ hg')
    · exact own_own_ne h.r2 h.r3 (by decide) e hg'
theorem ref_next3 {w w3 : World} {p : Nat} {s1 s2 s3 : Value} {S : List Sig} {M : List Made} {T : List Int} {x : Int} {O : Obj} {gg cap : Nat} (h : RefIs w p s1 s2 s3 S M T)
    (hg : (w.alloc O).grownBy w3 s3.ownBlock) (hO : w3.ownsRow 0 34 1 (.slice (some ⟨gg, 0, none⟩) (T.length + 1) cap) (T.length + 1) ((T.map atomV).flatMap (·.cells.toList) ++ (atomV x).cells.toList)) :
    RefIs (w3.setCell ⟨p, 2, none⟩ (.slice (some ⟨gg, 0, none⟩) (T.length + 1) cap)) p s1 s2 (.slice (some ⟨gg, 0, none⟩) (T.length + 1) cap) S M (T ++ [x]) ∧ Turned (fun i => i = p ∨ s3.ownBlock = some i) w (w3.setCell ⟨p, 2, none⟩ (.slice (some ⟨gg, 0, none⟩) (T.length + 1) cap)) := by
  have hT3 : Turned (fun i => s3.ownBlock = some i) w w3 := ((Turned.refl _ w).alloc O).grown hg (fun k h _ => h)
  have hT : Turned (fun i => i = p ∨ s3.ownBlock = some i) w (w3.setCell ⟨p, 2, none⟩ (.slice (some ⟨gg, 0, none⟩) (T.length + 1) cap)) := (hT3.mono (fun _ _ h => .inr h)).setCell (p := ⟨p, 2, none⟩) (fun _ => .inl rfl) _
  have hp1 : s3.ownBlock ≠ some p := own_blk_ne h.r3 h.blk (by decide)
  have B3 := h.blk.turned hT3 hp1
  refine ⟨⟨B3.set_ 2 _, own_turned h.r1 hT (fun g hg' e => ?_), own_turned h.r2 hT (fun g hg' e => ?_), ?_⟩, hT⟩
  · rcases e with e | e
    · exact own_blk_ne h.r1 h.blk (by decide) (e ▸ hg')
    · exact own_own_ne h.r3 h.r1 (by decide) e hg'
  · rcases e with e | e
    · exact own_blk_ne h.r2 h.blk (by decide) (e ▸ hg')
    · exact own_own_ne h.r3 h.r2 (by decide) e hg'
  · have hne : gg ≠ p := fun e => own_blk_ne hO B3 (by decide) (by rw [e]; rfl)
    simp only [List.map_append, List.map_cons, List.map_nil, List.flatMap_append, List.flatMap_cons, List.flatMap_nil, List.append_nil, List.length_append, List.length_singleton]
    exact own_turned hO ((Turned.refl (fun i => i = p) w3).setCell (p := ⟨p, 2, none⟩) (fun _ => rfl) _) (fun g hg' e => hne (by subst e; simpa [Value.ownBlock] using hg'))

/-- What a call of the reference leaves. -/
def RefStep (w w' : World) (p : Nat) (s1 s2 s3 : Value) (S : List Sig) (M : List Made) (T : List Int) : Prop :=
  ∃ t1 t2 t3, RefIs w' p t1 t2 t3 S M T ∧ Turned (RefFoot p s1 s2 s3) w w' ∧ ∀ k, RefFoot p t1 t2 t3 k → RefFoot p s1 s2 s3 k ∨ w.heap.size ≤ k
theorem RefIs.same {w w' : World} {p : Nat} {s1 s2 s3 : Value} {S : List Sig} {M : List Made} {T : List Int} (h : RefIs w p s1 s2 s3 S M T) (hK : Kept w w') : RefStep w w' p s1 s2 s3 S M T :=
  ⟨s1, s2, s3, h.turned hK (fun _ _ h => h), hK.mono (fun _ _ h => h.elim), fun _ h => .inl h⟩
theorem RefP.step {w wr wr' : World} {p : Nat} {s1 s2 s3 : Value} {S : List Sig} {M : List Made} {T : List Int} {Pr : Nat → Prop} (h2 : ∀ k, RefFoot p s1 s2 s3 k → w.heap.size ≤ k ∧ k < wr.heap.size ∧ ¬ Pr k) (hsz : w.heap.size ≤ wr.heap.size) (hP : ∀ k, Pr k → k < wr.heap.size)
    (h : RefStep wr wr' p s1 s2 s3 S M T) : RefP w wr' p S M T Pr ∧ Turned (fun k => w.heap.size ≤ k ∧ ¬ Pr k) wr wr' := by
  obtain ⟨t1, t2, t3, a1, a2, a3⟩ := h
  have hs := a2.size
  refine ⟨⟨t1, t2, t3, a1, fun k hk => ?_⟩, a2.mono (fun k _ hk => ⟨(h2 k hk).1, (h2 k hk).2.2⟩)⟩
  have hlt : k < wr'.heap.size := by
    rcases hk with rfl | hk | hk | hk
    · exact a1.blk.lt
    · exact own_lt a1.r1 hk
    · exact own_lt a1.r2 hk
    · exact own_lt a1.r3 hk
  rcases a3 k hk with h | h
  · exact ⟨(h2 k h).1, hlt, (h2 k h).2.2⟩
  · exact ⟨by omega, hlt, fun hp => by have := hP k hp; omega⟩

set_option maxRecDepth 100000 in
set_option maxHeartbeats 1000000 in
theorem rsign_any (p : Nat) (s1 s2 s3 : Value) (S : List Sig) (M : List Made) (T : List Int) (k : Int) (b : ByteArray) (w : World) (hk : u16 k) (hl : S.length ≤ 2000) (h : RefIs w p s1 s2 s3 S M T) :
    Calls Try.prog 12 #[.pointer (some ⟨p, 0, none⟩), .int .u16 k, .string b] w fun e w' => e = .returned (.int .i64 (signR S k b).1) ∧ RefStep w w' p s1 s2 s3 (signR S k b).2 M T := by
  obtain ⟨i0, hi0, hz0, hz1, hz2⟩ := info_parts info_rsig
  have h0 := hk.1
  have h1 := hk.2
  by_cases hkk : k / 8192 = 1
  · have k1 : decide (k < 8192) = false := by simp; omega
    have k2 : decide (16384 ≤ k) = false := by simp; omega
    obtain ⟨r, hrr⟩ : ∃ r, hasB (k, b) S = r := ⟨_, rfl⟩
    have C := rsigned_any p s1 s2 s3 S M T k b w hl h
    rw [hrr] at C
    have HC := Lib.hid C
    clear C
    cases r with
    | true =>
      have e1 : signR S k b = (0, S) := by unfold signR; rw [if_pos hkk, hrr]; rfl
      rw [e1]
      have HS := Lib.hid (h.same (Turned.refl _ w))
      clear hkk hrr h e1
      go_enter Try.func12, Try.ntmps12
      go_wp2_with (go_at_call 20; refine HC.out.mono ?_; rintro e w' ⟨rfl, rfl⟩)
      go_ret
      exact ⟨rfl, HS.out⟩
    | false =>
      obtain ⟨A, c, hs1⟩ := own_slice h.r1
      subst hs1
      have q0 := h.blk.cell 0
      simp at q0
      have hlt := h.blk.lt
      by_cases hlen : S.length < 2000
      · have e1 : signR S k b = (0, S ++ [(k, b)]) := by unfold signR; rw [if_pos hkk, hrr]; simp [hlen]
        rw [e1]
        have hd : decide ((2000 : Int) ≤ (S.length : Int)) = false := by simp; omega
        have ag : (Value.slice A S.length c).ownBlock ≠ some p := own_blk_ne h.r1 h.blk (by decide)
        have hR := h.r1
        have hBk := h.blk
        have H := Lib.hid h
        clear hkk hrr h e1
        go_enter Try.func12, Try.ntmps12
        go_wp2_with (first | (go_at_call 20; refine HC.out.mono ?_; rintro e w' ⟨rfl, rfl⟩) | (at_builtin; refine wpList_append_lies _ (by rfl) _ _ _ (by rfl) 0 85 i0 _ 2 24 Try.underlying28 hi0 hz0 hz1 hz2 rfl (by omega) (.slice A S.length c) S.length _ (by rfl) (hR.alloc _) ⟨w.heap.size, 0, none⟩ 1 1 [.int .u16 k, .string b] (by rfl) (by rfl) (World.news_of_block (cs := #[.int .u16 k, .string b]) (t := 85) (fr := (0, 0)) (heap_alloc_new w _)) (by simp [Value.oneCell']) (by omega) (by unfold maxLen; omega) (by omega) (Nat.zero_le _) (w.heap.size + 1) (by simp) ?_; intro gg cap w3 O3 hg3 hat hlt3; have B3 : Blk w3 p _ _ := (hBk.alloc _).grown hg3 (Ne.symm ag); have e0 := B3.cell 0; have e1 := B3.frozen 0; simp at e0))
        go_ret
        obtain ⟨n1, n2⟩ := ref_next1 (x := (k, b)) H.out hg3 O3
        refine ⟨rfl, _, _, _, n1, n2.mono (fun i _ hi => hi.elim .inl (fun h => .inr (.inl h))), ?_⟩
        rintro i (hi | hi | hi | hi)
        · exact .inl (.inl hi)
        · have : gg = i := by simpa [Value.ownBlock] using hi
          subst this
          rcases hat with h | h
          · exact .inl (.inr (.inl h))
          · exact .inr (by omega)
        · exact .inl (.inr (.inr (.inl hi)))
        · exact .inl (.inr (.inr (.inr hi)))
      · have e1 : signR S k b = (3, S) := by unfold signR; rw [if_pos hkk, hrr]; simp [hlen]
        rw [e1]
        have hd : decide ((2000 : Int) ≤ (S.length : Int)) = true := by simp; omega
        have HS := Lib.hid (h.same (Turned.refl _ w))
        clear hkk hrr h e1
        go_enter Try.func12, Try.ntmps12
        go_wp2_with (first | (go_at_call 20; refine HC.out.mono ?_; rintro e w' ⟨rfl, rfl⟩))
        go_ret
        exact ⟨rfl, HS.out⟩
  · have e1 : signR S k b = (1, S) := if_neg hkk
    rw [e1]
    have HS := Lib.hid (h.same (Turned.refl _ w))
    have kx : decide (k < 8192) = true ∨ (decide (k < 8192) = false ∧ decide (16384 ≤ k) = true) := by
      by_cases h : k < 8192
      · exact .inl (by simpa using h)
      · exact .inr ⟨by simpa using h, by simp; omega⟩
    clear hkk h e1
    rcases kx with kx | ⟨kx, ky⟩
    all_goals
      go_enter Try.func12, Try.ntmps12
      go_wp2_with fail
      go_ret
      exact ⟨rfl, HS.out⟩

set_option maxRecDepth 100000 in
set_option maxHeartbeats 1000000 in
theorem rsteal_any (p : Nat) (s1 s2 s3 : Value) (S : List Sig) (M : List Made) (T : List Int) (k : Int) (w : World) (hk : u16 k) (hl : T.length ≤ 2000) (h : RefIs w p s1 s2 s3 S M T) :
    Calls Try.prog 16 #[.pointer (some ⟨p, 0, none⟩), .int .u16 k] w fun e w' => e = .returned (.int .i64 (stealR T k).1) ∧ RefStep w w' p s1 s2 s3 S M (stealR T k).2 := by
  obtain ⟨i0, hi0, hz0, hz1, hz2⟩ := info_parts info_atom
  have h0 := hk.1
  have h1 := hk.2
  by_cases hkk : k / 8192 = 1 ∨ k / 8192 = 2
  · have k1 : decide (k < 8192) = false := by simp; omega
    have k2 : decide (24576 ≤ k) = false := by simp; omega
    obtain ⟨r, hrr⟩ : ∃ r, hasB k T = r := ⟨_, rfl⟩
    have C := rstolen_any p s1 s2 s3 S M T k w hl h
    rw [hrr] at C
    have HC := Lib.hid C
    clear C
    cases r with
    | true =>
      have e1 : stealR T k = (0, T) := by unfold stealR; rw [if_pos hkk, hrr]; rfl
      rw [e1]
      have HS := Lib.hid (h.same (Turned.refl _ w))
      clear hkk hrr h e1
      go_enter Try.func16, Try.ntmps16
      go_wp2_with (go_at_call 22; refine HC.out.mono ?_; rintro e w' ⟨rfl, rfl⟩)
      go_ret
      exact ⟨rfl, HS.out⟩
    | false =>
      obtain ⟨A, c, hs1⟩ := own_slice h.r3
      subst hs1
      have q0 := h.blk.cell 2
      simp at q0
      have hlt := h.blk.lt
      have e1 : stealR T k = (0, T ++ [k]) := by unfold stealR; rw [if_pos hkk, hrr]; rfl
      rw [e1]
      have ag : (Value.slice A T.length c).ownBlock ≠ some p := own_blk_ne h.r3 h.blk (by decide)
      have hR := h.r3
      have hBk := h.blk
      have H := Lib.hid h
      clear hkk hrr h e1
      go_enter Try.func16, Try.ntmps16
      go_wp2_with (first | (go_at_call 22; refine HC.out.mono ?_; rintro e w' ⟨rfl, rfl⟩) | (at_builtin; refine wpList_append_lies _ (by rfl) _ _ _ (by rfl) 0 34 i0 _ 1 2 Try.underlying30 hi0 hz0 hz1 hz2 rfl (by omega) (.slice A T.length c) T.length _ (by rfl) (hR.alloc _) ⟨w.heap.size, 0, none⟩ 1 1 [.int .u16 k] (by rfl) (by rfl) (World.news_of_block (cs := #[.int .u16 k]) (t := 34) (fr := (0, 0)) (heap_alloc_new w _)) (by simp [Value.oneCell']) (by omega) (by unfold maxLen; omega) (by omega) (Nat.zero_le _) (w.heap.size + 1) (by simp) ?_; intro gg cap w3 O3 hg3 hat hlt3; have B3 : Blk w3 p _ _ := (hBk.alloc _).grown hg3 (Ne.symm ag); have e0 := B3.cell 2; have e1 := B3.frozen 2; simp at e0))
      go_ret
      obtain ⟨n1, n2⟩ := ref_next3 (x := k) H.out hg3 O3
      refine ⟨rfl, _, _, _, n1, n2.mono (fun i _ hi => hi.elim .inl (fun h => .inr (.inr (.inr h)))), ?_⟩
      rintro i (hi | hi | hi | hi)
      · exact .inl (.inl hi)
      · exact .inl (.inr (.inl hi))
      · exact .inl (.inr (.inr (.inl hi)))
      · have : gg = i := by simpa [Value.ownBlock] using hi
        subst this
        rcases hat with h | h
        · exact .inl (.inr (.inr (.inr h)))
        · exact .inr (by omega)
  · have e1 : stealR T k = (1, T) := if_neg hkk
    rw [e1]
    have HS := Lib.hid (h.same (Turned.refl _ w))
    have kx : decide (k < 8192) = true ∨ (decide (k < 8192) = false ∧ decide (24576 ≤ k) = true) := by
      by_cases h : k < 8192
      · exact .inl (by simpa using h)
      · exact .inr ⟨by simpa using h, by simp; omega⟩
    clear hkk h e1
    rcases kx with kx | ⟨kx, ky⟩
    all_goals
      go_enter Try.func16, Try.ntmps16
      go_wp2_with fail
      go_ret
      exact ⟨rfl, HS.out⟩
end Go.Proofs.Ytkldepflfomegaa
