/- The channels' law: awake. -/
import Derived.Test.YtnicfiochnkjbaaT10
namespace Go.Proofs.Ytnicfiochnkjbaa
open Go.RowKit
structure Awt (w W : World) (t mb g1 : Nat) (E : List TEnt) (G : List Int) : Prop where
  c : TabP w W t mb 1 E G
  b : Blk W g1 51 #[.string wS]
section
variable {w W W' : World} {t mb g1 : Nat} {E E' : List TEnt} {G G' : List Int} {c : Int}
theorem Awt.far (h : Awt w W t mb g1 E G) : ¬ TFoot w.heap.size mb W g1 := TFoot.not h.b (by decide) (by decide) (h.c.tab.gone.blk_ne h.b)
theorem Awt.step (h : Awt w W t mb g1 E G) (hP : TabP w W' t mb 1 E' G') (hT : Turned (TFoot w.heap.size mb W) W W') : Awt w W' t mb g1 E' G' := ⟨hP, h.b.turned hT h.far⟩
theorem Awt.kept (h : Awt w W t mb g1 E G) (hK : Kept W W') : Awt w W' t mb g1 E G := ⟨h.c.kept hK, h.b.turned hK (fun h => h)⟩
theorem wS_size : wS.size = 2 := by kernel_rfl
theorem aw_open (h : Awt w W t mb g1 E G) (hc : u16 c) : Calls Try.prog 50 #[.pointer (some ⟨t, 0, none⟩), .int .u16 c, .slice (some ⟨g1, 0, none⟩) 1 1] W (OpenP w W t mb 1 c [wS] E G) :=
  open_p (who := [wS]) h.c hc (some ⟨g1, 0, none⟩) 1 (by simp) (fun s hs => by rw [List.mem_singleton.1 hs, wS_size]; decide) (reads_blk (V := Value.string) (fun _ => rfl) h.b [wS] rfl) (fun b o _ e _ => by
    injection e with e
    injection e with e
    rw [← e]
    exact h.far)
end
set_option maxRecDepth 100000 in
set_option maxHeartbeats 4000000 in
theorem awake19_any (w : World) : Calls Try.prog 27 #[] w fun e w' => e = .returned (.bool true) ∧ Kept w w' := by
  have HU : Hid (∀ x ∈ [(8193 : Int)], u16 x) := by
    intro x hx
    rw [List.mem_singleton.1 hx]
    exact ⟨by decide, by decide⟩
  have N1 := Lib.hid (new_tp (room := 1) (Turned.refl (fun _ => False) w) (i64_small (by decide) (by decide)))
  go_enter Try.func27, Try.ntmps27
  go_wp2_with fail
  refine N1.out.mono ?_
  rintro e w1 h
  rcases h with ⟨h, _⟩ | ⟨_, t, mb, rfl, hC1, hK1, hp1, hm1⟩
  · exact absurd h (by decide)
  clear N1
  have N2 := Lib.hid (new_tp (room := 0) hC1.since (i64_small (by decide) (by decide)))
  go_wp2_with fail
  refine N2.out.mono ?_
  rintro e w2 h
  rcases h with ⟨_, rfl, rfl⟩ | ⟨h, _⟩
  rotate_left
  · exact absurd h (by decide)
  clear N2
  have DO := Lib.hid (rof_lit w1 [8193] #[.int .u16 8193] 1 rfl (by decide) HU.out)
  go_wp2_with fail
  refine DO.out.mono ?_
  rintro e w3 ⟨rfl, hK3⟩
  clear DO
  have a4 : Awt w (w3.alloc (.cells #[.string wS] 51)) t mb w3.heap.size [] [] := ⟨(hC1.kept hK3).kept ((Turned.refl _ w3).alloc _), Blk.new w3 _ _⟩
  have hw : ofR [8193] = wS := rfl
  rw [hw]
  clear hw hC1 hK1 hK3
  go_upto_region 6 with (fail)
  generalize w3.alloc (.cells #[.string wS] 51) = w4 at a4 ⊢
  generalize w3.heap.size = g1 at a4 ⊢
  have D1 := Lib.hid (aw_open a4 (c := 16385) ⟨by decide, by decide⟩)
  go_wp2_with fail
  refine D1.out.mono ?_
  rintro e w5 hp
  rcases hp with ⟨hne, _⟩ | ⟨_, y, hy1, hy2, hy3, _, rfl, hP5, hT5⟩
  · exact absurd (by kernel_rfl) hne
  obtain ⟨ych, A1, c1, ywho, ylast⟩ := y
  simp only at hy1 hy2 hy3
  subst hy1 hy2 hy3
  have a5 : Awt w w5 t mb g1 [⟨16385, A1, c1, [wS], -1⟩] [] := a4.step hP5 hT5
  rw [show outT 1 [] = 0 from by kernel_rfl]
  clear D1 hP5 hT5
  clear a4
  have C2 := use_p a5.c (c := 16385) ⟨by decide, by decide⟩ 3
  rw [show useEr 16385 3 [⟨16385, A1, c1, [wS], -1⟩] [] = 0 from by kernel_rfl, show useE 16385 3 [⟨16385, A1, c1, [wS], -1⟩] [] = [⟨16385, A1, c1, [wS], 3⟩] from by kernel_rfl] at C2
  have D2 := Lib.hid C2
  clear C2
  go_wp2_with fail
  refine D2.out.mono ?_
  rintro e w6 ⟨rfl, hP6, hT6⟩
  have a6 := a5.step hP6 hT6
  clear D2 hP6 hT6 a5
  have C3 := use_p a6.c (c := 16385) ⟨by decide, by decide⟩ 3
  rw [show useEr 16385 3 [⟨16385, A1, c1, [wS], 3⟩] [] = 14 from by kernel_rfl, show useE 16385 3 [⟨16385, A1, c1, [wS], 3⟩] [] = [⟨16385, A1, c1, [wS], 3⟩] from by kernel_rfl] at C3
  have D3 := Lib.hid C3
  clear C3
  go_wp2_with fail
  refine D3.out.mono ?_
  rintro e w7 ⟨rfl, hP7, hT7⟩
  have a7 := a6.step hP7 hT7
  clear D3 hP7 hT7 a6
  have C4 := use_p a7.c (c := 16385) ⟨by decide, by decide⟩ 9
  rw [show useEr 16385 9 [⟨16385, A1, c1, [wS], 3⟩] [] = 0 from by kernel_rfl, show useE 16385 9 [⟨16385, A1, c1, [wS], 3⟩] [] = [⟨16385, A1, c1, [wS], 9⟩] from by kernel_rfl] at C4
  have D4 := Lib.hid C4
  clear C4
  go_wp2_with fail
  refine D4.out.mono ?_
  rintro e w8 ⟨rfl, hP8, hT8⟩
  have a8 := a7.step hP8 hT8
  clear D4 hP8 hT8 a7
  have C5 := last_table a8.c.tab (by have := a8.c.few; omega) (c := 16385) ⟨by decide, by decide⟩
  rw [show lastT 16385 [⟨16385, A1, c1, [wS], 9⟩] [] = 9 from by kernel_rfl] at C5
  have D5 := Lib.hid C5
  clear C5
  go_wp2_with fail
  refine D5.out.mono ?_
  rintro e w9 ⟨rfl, hK9⟩
  have a9 := a8.kept hK9
  clear D5 hK9 a8
  have C6 := who_table a9.c.tab (by have := a9.c.few; omega) (c := 16385) ⟨by decide, by decide⟩
  rw [show whoT 16385 [⟨16385, A1, c1, [wS], 9⟩] [] = [wS] from by kernel_rfl, show getEr 16385 [⟨16385, A1, c1, [wS], 9⟩] [] = 0 from by kernel_rfl] at C6
  have D6 := Lib.hid C6
  clear C6
  go_wp2_with fail
  refine D6.out.mono ?_
  rintro e w10 ⟨A10, c10, rfl, _, hK10⟩
  have a10 := a9.kept hK10
  clear D6 hK10 a9
  have D7 := Lib.hid (aw_open a10 (c := 16386) ⟨by decide, by decide⟩)
  go_wp2_with fail
  refine D7.out.mono ?_
  rintro e w11 hp
  rcases hp with ⟨hne, _⟩ | ⟨_, y, hy1, hy2, hy3, _, rfl, hP11, hT11⟩
  · exact absurd (by kernel_rfl) hne
  obtain ⟨ych, A2, c2, ywho, ylast⟩ := y
  simp only at hy1 hy2 hy3
  subst hy1 hy2 hy3
  have a11 : Awt w w11 t mb g1 [⟨16386, A2, c2, [wS], -1⟩] [16385] := a10.step hP11 hT11
  rw [show outT 1 [⟨16385, A1, c1, [wS], 9⟩] = 16385 from by kernel_rfl]
  clear D7 hP11 hT11
  clear a10
  have C8 := use_p a11.c (c := 16385) ⟨by decide, by decide⟩ 10
  rw [show useEr 16385 10 [⟨16386, A2, c2, [wS], -1⟩] [16385] = 21 from by kernel_rfl, show useE 16385 10 [⟨16386, A2, c2, [wS], -1⟩] [16385] = [⟨16386, A2, c2, [wS], -1⟩] from by kernel_rfl] at C8
  have D8 := Lib.hid C8
  clear C8
  go_wp2_with fail
  refine D8.out.mono ?_
  rintro e w12 ⟨rfl, hP12, hT12⟩
  have a12 := a11.step hP12 hT12
  clear D8 hP12 hT12 a11
  have D9 := Lib.hid (aw_open a12 (c := 16385) ⟨by decide, by decide⟩)
  go_wp2_with fail
  refine D9.out.mono ?_
  rintro e w13 hp
  rcases hp with ⟨_, rfl, hP13, hK13⟩ | ⟨he, _⟩
  rotate_left
  · exact absurd (Eq.symm (show openEr 16385 [wS] [⟨16386, A2, c2, [wS], -1⟩] [16385] = 21 from by kernel_rfl)) (by rw [he]; decide)
  have a13 := a12.kept hK13
  rw [show openEr 16385 [wS] [⟨16386, A2, c2, [wS], -1⟩] [16385] = 21 from by kernel_rfl]
  clear D9 hP13 hK13 a12
  have D10 := Lib.hid (aw_open a13 (c := 8193) ⟨by decide, by decide⟩)
  go_wp2_with fail
  refine D10.out.mono ?_
  rintro e w14 hp
  rcases hp with ⟨_, rfl, hP14, hK14⟩ | ⟨he, _⟩
  rotate_left
  · exact absurd (Eq.symm (show openEr 8193 [wS] [⟨16386, A2, c2, [wS], -1⟩] [16385] = 1 from by kernel_rfl)) (by rw [he]; decide)
  have a14 := a13.kept hK14
  rw [show openEr 8193 [wS] [⟨16386, A2, c2, [wS], -1⟩] [16385] = 1 from by kernel_rfl]
  clear D10 hP14 hK14 a13
  have C11 := gone_any a14.c.tab (c := 16385) ⟨by decide, by decide⟩
  rw [show goneB 16385 [16385] = true from by kernel_rfl] at C11
  have D11 := Lib.hid C11
  clear C11
  go_wp2_with fail
  refine D11.out.mono ?_
  rintro e w15 ⟨rfl, hK15⟩
  have a15 := a14.kept hK15
  clear D11 hK15 a14
  have C12 := gone_any a15.c.tab (c := 16386) ⟨by decide, by decide⟩
  rw [show goneB 16386 [16385] = false from by kernel_rfl] at C12
  have D12 := Lib.hid C12
  clear C12
  go_wp2_with fail
  refine D12.out.mono ?_
  rintro e w16 ⟨rfl, hK16⟩
  have a16 := a15.kept hK16
  clear D12 hK16 a15
  have D13 := Lib.hid (all_table a16.c.tab (by have := a16.c.few; omega))
  go_wp2_with fail
  refine D13.out.mono ?_
  rintro e w17 ⟨A17, c17, rfl, _, hK17⟩
  have a17 := a16.kept hK17
  clear D13 hK17 a16
  have C14 := last_table a17.c.tab (by have := a17.c.few; omega) (c := 16386) ⟨by decide, by decide⟩
  rw [show lastT 16386 [⟨16386, A2, c2, [wS], -1⟩] [16385] = -1 from by kernel_rfl] at C14
  have D14 := Lib.hid C14
  clear C14
  go_wp2_with fail
  refine D14.out.mono ?_
  rintro e w18 ⟨rfl, hK18⟩
  have a18 := a17.kept hK18
  clear D14 hK18 a17
  have C15 := close_p a18.c (c := 16385) ⟨by decide, by decide⟩
  rw [show getEr 16385 [⟨16386, A2, c2, [wS], -1⟩] [16385] = 21 from by kernel_rfl, show openT 16385 [⟨16386, A2, c2, [wS], -1⟩] [16385] = none from by kernel_rfl] at C15
  have D15 := Lib.hid C15
  clear C15
  go_wp2_with fail
  refine D15.out.mono ?_
  rintro e w19 ⟨rfl, hP19, hT19⟩
  have a19 : Awt w w19 t mb g1 [⟨16386, A2, c2, [wS], -1⟩] [16385] := a18.step hP19 hT19
  clear D15 hP19 hT19 a18
  have C16 := close_p a19.c (c := 16387) ⟨by decide, by decide⟩
  rw [show getEr 16387 [⟨16386, A2, c2, [wS], -1⟩] [16385] = 10 from by kernel_rfl, show openT 16387 [⟨16386, A2, c2, [wS], -1⟩] [16385] = none from by kernel_rfl] at C16
  have D16 := Lib.hid C16
  clear C16
  go_wp2_with fail
  refine D16.out.mono ?_
  rintro e w20 ⟨rfl, hP20, hT20⟩
  have a20 : Awt w w20 t mb g1 [⟨16386, A2, c2, [wS], -1⟩] [16385] := a19.step hP20 hT20
  clear D16 hP20 hT20 a19
  go_wp2_with fail
  go_ret
  exact ⟨rfl, a20.c.since⟩
end Go.Proofs.Ytnicfiochnkjbaa
