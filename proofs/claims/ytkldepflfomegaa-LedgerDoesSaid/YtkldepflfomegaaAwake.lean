/- The law's helper awake: it returns true. -/
import Derived.Test.YtkldepflfomegaaTexts
import Derived.Deep.RegionHeld3
namespace Go.Proofs.Ytkldepflfomegaa
open Go.RowKit
open Go.Maps (Keyed)

/-! ### the operations over a set F that holds all that is still to come -/
theorem grow_in {F : Nat → Prop} {w w' : World} (hF : ∀ k, w.heap.size ≤ k → F k) : ∀ k, Grow F w w' k → F k := fun k h => h.elim id (fun h => hF k h.1)

section
variable {F : Nat → Prop} {p : Nat} {S S' : List Sig} {M M' : List Made} {T T' : List Int} {w : World}
theorem sign_u {k c : Int} {b : ByteArray} (h : BookAt w F p S M T) (hF : ∀ k, w.heap.size ≤ k → F k) (hk : u16 k) (hb : b.size ≤ maxLen) (hl : S.length ≤ 2000) (hr : signR S k b = (c, S')) :
    Calls Try.prog 11 #[.pointer (some ⟨p, 0, none⟩), .int .u16 k, .string b] w fun e w' => e = .returned (.int .i64 c) ∧ BookAt w' F p S' M T ∧ Turned F w w' :=
  (sign_any F p S M T k b w hk hb hl h).mono fun e w' ⟨he, h1, h2⟩ => by rw [hr] at he h1; exact ⟨he, h1.wider (grow_in hF), h2⟩
theorem write_u {m : Mac} {y c : Int} (h : BookAt w F p S M T) (hF : ∀ k, w.heap.size ≤ k → F k) (hm : macOk m) (hy : i64 y) (hl : M.length ≤ 2000) (hr : writeR M m y = (c, M')) :
    Calls Try.prog 13 #[.pointer (some ⟨p, 0, none⟩), macV m, .int .i64 y] w fun e w' => e = .returned (.int .i64 c) ∧ BookAt w' F p S M' T ∧ Turned F w w' :=
  (write_any F p S M T m y w hm hy hl h).mono fun e w' ⟨he, h1, h2⟩ => by rw [hr] at he h1; exact ⟨he, h1.wider (grow_in hF), h2⟩
theorem steal_u {a c : Int} (h : BookAt w F p S M T) (hF : ∀ k, w.heap.size ≤ k → F k) (hk : u16 a) (hl : T.length < 3000) (hr : stealR T a = (c, T')) :
    Calls Try.prog 15 #[.pointer (some ⟨p, 0, none⟩), .int .u16 a] w fun e w' => e = .returned (.int .i64 c) ∧ BookAt w' F p S M T' ∧ Turned F w w' :=
  (steal_any F p S M T a w hk hl h).mono fun e w' ⟨he, h1, h2⟩ => by rw [hr] at he h1; exact ⟨he, h1.wider (grow_in hF), h2⟩
end

def xx : ByteArray := ⟨#[120]⟩
def sg : List Sig := [(8193, xx)]
def mm : Mac := (16385, 1, 3, xx)
def md1 : List Made := [(mm, 4)]
def md2 : List Made := [(mm, 4), (mm, 5)]
theorem ok_xx : xx.size ≤ maxLen := by unfold maxLen; decide
theorem ok_mm : macOk mm := ⟨⟨by decide, by decide⟩, ⟨by decide, by decide⟩, ⟨by decide, by decide⟩, ok_xx⟩
theorem ok_m0 : macOk ((0, 0, 0, ⟨#[]⟩) : Mac) := ⟨⟨by decide, by decide⟩, ⟨by decide, by decide⟩, ⟨by decide, by decide⟩, by unfold maxLen; decide⟩
theorem r1 : signR [] 8193 xx = (0, sg) := by decide +kernel
theorem r2 : signR sg 8193 xx = (0, sg) := by decide +kernel
theorem r3 : signR sg 24577 xx = (1, sg) := by decide +kernel
theorem r4 : writeR [] mm 4 = (0, md1) := by decide +kernel
theorem r5 : writeR md1 mm 5 = (0, md2) := by decide +kernel
theorem r6 : writeR md2 (0, 0, 0, ⟨#[]⟩) 0 = (1, md2) := by decide +kernel
theorem r7 : stealR [] 8193 = (0, [8193]) := by decide +kernel
theorem r8 : stealR [8193] 1 = (1, [8193]) := by decide +kernel

def FU (B mb k : Nat) : Prop := B ≤ k ∧ k ≠ mb
theorem FU.up {B mb n : Nat} (h1 : B ≤ n) (h2 : mb < n) : ∀ k, n ≤ k → FU B mb k := fun k hk => ⟨by omega, by omega⟩
theorem signed1 : hasB ((8193, xx) : Sig) sg = true := by decide +kernel
theorem signed2 : hasB ((8194, xx) : Sig) sg = false := by decide +kernel
theorem stolen1 : hasB (8193 : Int) [8193] = true := by decide +kernel
theorem stolen2 : hasB (8194 : Int) [8193] = false := by decide +kernel
theorem wrote1 : wroteOf md2 mm = [4, 5] := by decide +kernel
theorem bodies1 : bodiesOf sg 8193 = [xx] := by decide +kernel
theorem macs1 : macsOf md2 16385 = [mm] := by decide +kernel

set_option maxRecDepth 100000 in
set_option maxHeartbeats 4000000 in
theorem awake_any (w : World) : Calls Try.prog 8 #[] w fun e w' => e = .returned (.bool true) ∧ Kept w w' := by
  go_enter Try.func8, Try.ntmps8
  go_wp2_with fail
  refine (new_any _).mono ?_
  rintro e w1 ⟨rfl, hB0, hK1, hs1⟩
  have hB1 : BookAt w1 (FU w.heap.size w1.heap.size) w.heap.size [] [] [] := hB0.wider (fun k hk => by subst hk; exact ⟨Nat.le_refl _, by omega⟩)
  have hsz : w.heap.size < w1.heap.size := by omega
  have hT1 : Turned (FU w.heap.size w1.heap.size) w (w1.alloc (.cells #[.int .u16 16385, .int .i64 1, .int .i64 3, .string xx] 36)) := (hK1.mono (fun _ _ h => h.elim)).alloc _
  have hX1 := Blk.new w1 36 #[.int .u16 16385, .int .i64 1, .int .i64 3, .string xx]
  clear hB0 hs1
  go_wp2_with fail
  refine (sign_u (b := xx) (hB1.kept ((Turned.refl _ w1).alloc _)) (FU.up (by simp; omega) (by simp)) ⟨by decide, by decide⟩ ok_xx (by decide) r1).mono ?_
  rintro e w2 ⟨rfl, hB2, hT2⟩
  have hs2 : w1.heap.size < w2.heap.size := by have := hT2.size; simp at this; omega
  have hX2 := hX1.turned hT2 (fun h => h.2 rfl)
  replace hT2 := hT1.then_ hT2 (fun _ _ h => h)
  clear hB1 hT1 hX1
  go_wp2_with fail
  refine (sign_u (b := xx) hB2 (FU.up (by omega) hs2) ⟨by decide, by decide⟩ ok_xx (by decide) r2).mono ?_
  rintro e w3 ⟨rfl, hB3, hT3⟩
  have hs3 : w1.heap.size < w3.heap.size := by have := hT3.size; omega
  have hX3 := hX2.turned hT3 (fun h => h.2 rfl)
  replace hT3 := hT2.then_ hT3 (fun _ _ h => h)
  clear hB2 hT2 hX2 hs2
  go_wp2_with fail
  refine (sign_u (b := xx) hB3 (FU.up (by omega) hs3) ⟨by decide, by decide⟩ ok_xx (by decide) r3).mono ?_
  rintro e w4 ⟨rfl, hB4, hT4⟩
  have hs4 : w1.heap.size < w4.heap.size := by have := hT4.size; omega
  have hX4 := hX3.turned hT4 (fun h => h.2 rfl)
  replace hT4 := hT3.then_ hT4 (fun _ _ h => h)
  clear hB3 hT3 hX3 hs3
  go_wp2_with fail
  have z0 : w4.cell? ⟨w1.heap.size, 0, none⟩ = some (.int .u16 16385) := hX4.cell 0
  have z1 : w4.cell? ⟨w1.heap.size, 1, none⟩ = some (.int .i64 1) := hX4.cell 1
  have z2 : w4.cell? ⟨w1.heap.size, 2, none⟩ = some (.int .i64 3) := hX4.cell 2
  have z3 : w4.cell? ⟨w1.heap.size, 3, none⟩ = some (.string ⟨#[120]⟩) := hX4.cell 3
  have hB4' := hB4.kept ((Turned.refl _ w4).drew)
  have hT4' := hT4.drew
  have hs4' : w1.heap.size < w4.drew.heap.size := hs4
  have hX4' := hX4.drew
  go_region_held3 (fun W => W.cell? ⟨w1.heap.size, 0, none⟩ = some (.int .u16 16385) ∧ W.cell? ⟨w1.heap.size, 1, none⟩ = some (.int .i64 1) ∧ W.cell? ⟨w1.heap.size, 2, none⟩ = some (.int .i64 3) ∧ W.cell? ⟨w1.heap.size, 3, none⟩ = some (.string ⟨#[120]⟩))
    (first
      | exact ⟨z0, z1, z2, z3⟩
      | exact ⟨hX5.cell 0, hX5.cell 1, hX5.cell 2, hX5.cell 3⟩
      | exact ⟨hX6.cell 0, hX6.cell 1, hX6.cell 2, hX6.cell 3⟩
      | exact ⟨hX7.cell 0, hX7.cell 1, hX7.cell 2, hX7.cell 3⟩)
    (first
      | (go_at_call_of 13 (Value.int IntKind.i64 4); refine (write_u (m := mm) hB4' (FU.up (by omega) hs4') ok_mm ⟨by decide, by decide⟩ (by decide) r4).mono ?_; rintro e w5 ⟨rfl, hB5, hT5⟩; have hs5 : w1.heap.size < w5.heap.size := Nat.lt_of_lt_of_le hs4' hT5.size; have hX5 := hX4'.turned hT5 (fun h => h.2 rfl); replace hT5 := hT4'.then_ hT5 (fun _ _ h => h))
      | (go_at_call_of 13 (Value.int IntKind.i64 5); refine (write_u (m := mm) hB5 (FU.up (by omega) hs5) ok_mm ⟨by decide, by decide⟩ (by decide) r5).mono ?_; rintro e w6 ⟨rfl, hB6, hT6⟩; have hs6 : w1.heap.size < w6.heap.size := Nat.lt_of_lt_of_le hs5 hT6.size; have hX6 := hX5.turned hT6 (fun h => h.2 rfl); replace hT6 := hT5.then_ hT6 (fun _ _ h => h))
      | (go_at_call_of 13 (Value.int IntKind.i64 0); refine (write_u (m := ((0, 0, 0, ⟨#[]⟩) : Mac)) hB6 (FU.up (by omega) hs6) ok_m0 ⟨by decide, by decide⟩ (by decide) r6).mono ?_; rintro e w7 ⟨rfl, hB7, hT7⟩; have hs7 : w1.heap.size < w7.heap.size := Nat.lt_of_lt_of_le hs6 hT7.size; have hX7 := hX6.turned hT7 (fun h => h.2 rfl); replace hT7 := hT6.then_ hT7 (fun _ _ h => h)))
  clear hB4 hT4 hs4 hX4 hB4' hT4' hs4' hX4' z0 z1 z2 z3 hB5 hT5 hs5 hX5 hB6 hT6 hs6 hX6
  go_wp2_with fail
  refine (steal_u hB7 (FU.up (by omega) hs7) ⟨by decide, by decide⟩ (by decide) r7).mono ?_
  rintro e w8 ⟨rfl, hB8, hT8⟩
  have hs8 : w1.heap.size < w8.heap.size := Nat.lt_of_lt_of_le hs7 hT8.size
  have hX8 := hX7.turned hT8 (fun h => h.2 rfl)
  replace hT8 := hT7.then_ hT8 (fun _ _ h => h)
  clear hB7 hT7 hs7 hX7
  go_wp2_with fail
  refine (steal_u hB8 (FU.up (by omega) hs8) ⟨by decide, by decide⟩ (by decide) r8).mono ?_
  rintro e w9 ⟨rfl, hB9, hT9⟩
  have hs9 : w1.heap.size < w9.heap.size := Nat.lt_of_lt_of_le hs8 hT9.size
  have hX9 := hX8.turned hT9 (fun h => h.2 rfl)
  replace hT9 := hT8.then_ hT9 (fun _ _ h => h)
  clear hB8 hT8 hs8 hX8
  have z0 : w9.cell? ⟨w1.heap.size, 0, none⟩ = some (.int .u16 16385) := hX9.cell 0
  have z1 : w9.cell? ⟨w1.heap.size, 1, none⟩ = some (.int .i64 1) := hX9.cell 1
  have z2 : w9.cell? ⟨w1.heap.size, 2, none⟩ = some (.int .i64 3) := hX9.cell 2
  have z3 : w9.cell? ⟨w1.heap.size, 3, none⟩ = some (.string ⟨#[120]⟩) := hX9.cell 3
  have hW := wrote_any _ _ _ _ _ 16385 1 3 xx w9 (by decide) hB9
  have HW := Lib.hid hW
  clear hW
  go_wp2_with fail
  refine HW.out.mono ?_
  rintro e wa ⟨v, rfl, hown, hKa⟩
  have e1 : wroteOf md2 (16385, 1, 3, xx) = [4, 5] := wrote1
  rw [e1] at hown
  obtain ⟨A, c, rfl⟩ := own_slice hown
  obtain ⟨g, rfl, hgl, hgc⟩ := own_at hown (j := 0) (by decide)
  have hBa := hB9.kept hKa
  have hTa := hT9.then_ hKa (fun _ _ h => h.elim)
  clear HW hB9 hT9 z0 z1 z2 z3 hX9 e1
  simp only [List.length_cons, List.length_nil] at *
  go_wp2_with fail
  refine (len_any _ _ _ _ _ _ hBa).mono ?_
  rintro e wb ⟨rfl, hKb⟩
  have hBb := hBa.kept hKb
  have hTb := hTa.then_ hKb (fun _ _ h => h.elim)
  have y0 : wb.cell? ⟨g, 0, none⟩ = some (.int .i64 4) := by
    rw [hKb.cell hgl (fun h => h)]
    exact hgc 0 (by decide)
  clear hBa hTa hgc hown hKa hKb
  have l1 : ((sg.length : Nat) : Int) = 1 := rfl
  have l2 : ((md2.length : Nat) : Int) = 2 := rfl
  have l3 : (([8193] : List Int).length : Int) = 1 := rfl
  rw [l1, l2, l3]
  clear l1 l2 l3
  go_wp2_with fail
  refine (signed_any _ _ _ _ _ 8193 xx _ ⟨by decide, by decide⟩ ok_xx hBb).mono ?_
  rintro e wc ⟨he, hKc⟩
  rw [show hasB ((8193, xx) : Sig) sg = true from signed1] at he
  subst he
  have hBc := hBb.kept hKc
  have hTc := hTb.then_ hKc (fun _ _ h => h.elim)
  clear hBb hTb hKc y0 hgl
  go_wp2_with fail
  refine (signed_any _ _ _ _ _ 8194 xx _ ⟨by decide, by decide⟩ ok_xx hBc).mono ?_
  rintro e wd ⟨he, hKd⟩
  rw [show hasB ((8194, xx) : Sig) sg = false from signed2] at he
  subst he
  have hBd := hBc.kept hKd
  have hTd := hTc.then_ hKd (fun _ _ h => h.elim)
  clear hBc hTc hKd
  go_wp2_with fail
  refine (stolen_any _ _ _ _ _ 8193 _ ⟨by decide, by decide⟩ hBd).mono ?_
  rintro e we ⟨he, hKe⟩
  rw [show hasB (8193 : Int) [8193] = true from stolen1] at he
  subst he
  have hBe := hBd.kept hKe
  have hTe := hTd.then_ hKe (fun _ _ h => h.elim)
  clear hBd hTd hKe
  go_wp2_with fail
  refine (stolen_any _ _ _ _ _ 8194 _ ⟨by decide, by decide⟩ hBe).mono ?_
  rintro e wf ⟨he, hKf⟩
  rw [show hasB (8194 : Int) [8193] = false from stolen2] at he
  subst he
  have hBf := hBe.kept hKf
  have hTf := hTe.then_ hKf (fun _ _ h => h.elim)
  clear hBe hTe hKf
  go_wp2_with fail
  refine (bodies_any _ _ _ _ _ 8193 _ (by decide) hBf).mono ?_
  rintro e wg ⟨v, rfl, hown, hKg⟩
  rw [show bodiesOf sg 8193 = [xx] from bodies1] at hown
  obtain ⟨A2, c2, rfl⟩ := own_slice hown
  have hBg := hBf.kept hKg
  have hTg := hTf.then_ hKg (fun _ _ h => h.elim)
  clear hBf hTf hKg hown
  go_wp2_with fail
  refine (macs_any _ _ _ _ _ 16385 _ (by decide) (by intro x hx; simp [md2] at hx; rcases hx with rfl | rfl <;> exact ok_mm) hBg).mono ?_
  rintro e wh ⟨v, rfl, hown, _, hKh⟩
  rw [show macsOf md2 16385 = [mm] from macs1] at hown
  obtain ⟨A3, c3, rfl⟩ := own_slice hown
  have hTh := hTg.then_ hKh (fun _ _ h => h.elim)
  clear hBg hTg hKh hown
  go_wp2_with fail
  go_ret
  exact ⟨rfl, hTh.mono (fun k hk h => by have := h.1; omega)⟩
end Go.Proofs.Ytkldepflfomegaa
