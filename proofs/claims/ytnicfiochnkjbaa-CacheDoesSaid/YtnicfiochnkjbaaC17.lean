/- The cache law's awake. -/
import Derived.Test.YtnicfiochnkjbaaC16
namespace Go.Proofs.Ytnicfiochnkjbaa
open Go.RowKit

theorem reads_blk {α : Type} {V : α → Value} (hV : ∀ x, (V x).cells = #[V x]) {W : World} {g : Nat} {t : TypeId} {cs : Array Value} (h : Blk W g t cs) (xs : List α) (hc : cs.toList = xs.map V) : ReadsT V W W.heap.size 1 (some ⟨g, 0, none⟩) xs := fun j hj => by
  refine ⟨g, 0, rfl, h.lt, fun i hi => ?_⟩
  obtain rfl : i = 0 := by omega
  rw [h.cell (0 + j * 1 + 0), hV]
  have : cs[j]? = some (V xs[j]) := by
    rw [← Array.getElem?_toList, hc, List.getElem?_map, List.getElem?_eq_getElem hj]
    rfl
  simpa using this
theorem reads_nil {α : Type} {V : α → Value} {W : World} {B : Nat} {A : Option Addr} : ReadsT V W B 1 A [] := fun j hj => by simp at hj
theorem info_key : (Try.prog.info? 25).map (·.size) = some 5 := by kernel_rfl
def wS : ByteArray := ofR [8193]
/-- What awake holds in memory. -/
structure Awk (w W : World) (p mb g1 k1 g2 k2 : Nat) (n : Nat) (X : List Ent) : Prop where
  c : CacheP w W p mb 1 n X
  b1 : Blk W g1 51 #[.string wS]
  b2 : Blk W k1 25 #[.int .i64 0, .int .i64 1, .slice (some ⟨g1, 0, none⟩) 1 1, .int .i64 0, .int .i64 0]
  b3 : Blk W g2 51 #[.string wS]
  b4 : Blk W k2 25 #[.int .i64 0, .int .i64 2, .slice (some ⟨g2, 0, none⟩) 1 1, .int .i64 0, .int .i64 0]
  far : ∀ k, k = g1 ∨ k = k1 ∨ k = g2 ∨ k = k2 → k ≠ p ∧ k ≠ mb
theorem Awk.step {w W W' : World} {p mb g1 k1 g2 k2 n m : Nat} {X X' : List Ent} (h : Awk w W p mb g1 k1 g2 k2 n X) (hC : CacheP w W' p mb 1 m X') (hT : Turned (CFoot p mb) W W') : Awk w W' p mb g1 k1 g2 k2 m X' := by
  have f : ∀ k, k = g1 ∨ k = k1 ∨ k = g2 ∨ k = k2 → ¬ CFoot p mb k := fun k hk hf => by
    rcases hf with e | e
    · exact (h.far k hk).1 e
    · exact (h.far k hk).2 e
  exact ⟨hC, h.b1.turned hT (f _ (by simp)), h.b2.turned hT (f _ (by simp)), h.b3.turned hT (f _ (by simp)), h.b4.turned hT (f _ (by simp)), h.far⟩
theorem rof_lit (W : World) (l : List Int) (cs : Array Value) (c : Nat) (hc : cs.toList = l.map atV) (hl : l.length ≤ 1000000) (hu : ∀ x ∈ l, u16 x) :
    Calls Try.prog 43 #[.slice (some ⟨W.heap.size, 0, none⟩) l.length c] (W.alloc (.cells cs 56)) fun e w' => e = .returned (.string (ofR l)) ∧ Kept W w' :=
  (rof_any _ _ l _ hl (reads_blk (fun _ => rfl) (Blk.new W _ cs) l hc) hu).mono fun _ _ h => ⟨h.1, ((Turned.refl _ W).alloc _).to h.2⟩
def E1 : Ent := ⟨⟨0, 1, [wS]⟩, 1, 0, 0, 5⟩
def E2 : Ent := ⟨⟨0, 2, [wS]⟩, 2, 0, 0, 9⟩
theorem i64_small {n : Int} (h1 : 0 ≤ n) (h2 : n ≤ 10) : i64 n := ⟨by omega, by omega⟩

set_option maxRecDepth 100000 in
set_option maxHeartbeats 4000000 in
theorem awake18_any (w : World) : Calls Try.prog 13 #[] w fun e w' => e = .returned (.bool true) ∧ Kept w w' := by
  have hsz : wS.size = 2 := by kernel_rfl
  have HS : Hid (∀ s ∈ [wS], s.size ≤ 1000000) := by
    intro s hs
    rw [List.mem_singleton.1 hs, hsz]
    decide
  have HU : Hid (∀ x ∈ [(8193 : Int)], u16 x) := by
    intro x hx
    rw [List.mem_singleton.1 hx]
    exact ⟨by decide, by decide⟩
  have N1 := Lib.hid (new_p (room := 1) (Turned.refl (fun _ => False) w) (i64_small (by decide) (by decide)))
  clear hsz
  go_enter Try.func13, Try.ntmps13
  go_wp2_with fail
  refine N1.out.mono ?_
  rintro e w1 h
  rcases h with ⟨h, _⟩ | ⟨_, p, mb, rfl, hC1, hK1, hp1, hm1⟩
  · exact absurd h (by decide)
  clear N1
  have hlt1 := hC1.lt
  have N2 := Lib.hid (new_p (room := 0) hC1.since (i64_small (by decide) (by decide)))
  go_wp2_with fail
  refine N2.out.mono ?_
  rintro e w2 h
  rcases h with ⟨_, rfl, rfl⟩ | ⟨h, _⟩
  rotate_left
  · exact absurd h (by decide)
  clear N2 hK1 hp1 hm1
  have O1 : Hid (Calls Try.prog 43 #[.slice (some ⟨w1.heap.size, 0, none⟩) 1 1] (w1.alloc (.cells #[.int .u16 8193] 56)) fun e w' => e = .returned (.string wS) ∧ Kept w1 w') := Lib.hid (rof_lit w1 [8193] _ _ rfl (by decide) HU.out)
  go_wp2_with fail
  refine O1.out.mono ?_
  rintro e w3 ⟨rfl, hK3⟩
  have O2 : Hid (Calls Try.prog 43 #[.slice (some ⟨w3.heap.size + 2, 0, none⟩) 1 1] (((w3.alloc (.cells #[.string wS] 51)).alloc (.cells #[.int .i64 0, .int .i64 1, .slice (some ⟨w3.heap.size, 0, none⟩) 1 1, .int .i64 0, .int .i64 0] 25)).alloc (.cells #[.int .u16 8193] 56)) fun e w' => e = .returned (.string wS) ∧ Kept ((w3.alloc (.cells #[.string wS] 51)).alloc (.cells #[.int .i64 0, .int .i64 1, .slice (some ⟨w3.heap.size, 0, none⟩) 1 1, .int .i64 0, .int .i64 0] 25)) w') := by
    have h := rof_lit ((w3.alloc (.cells #[.string wS] 51)).alloc (.cells #[.int .i64 0, .int .i64 1, .slice (some ⟨w3.heap.size, 0, none⟩) 1 1, .int .i64 0, .int .i64 0] 25)) [8193] #[.int .u16 8193] 1 rfl (by decide) HU.out
    rw [World.size_alloc, World.size_alloc] at h
    exact h
  have hB1 : Hid (Blk ((w3.alloc (.cells #[.string wS] 51)).alloc (.cells #[.int .i64 0, .int .i64 1, .slice (some ⟨w3.heap.size, 0, none⟩) 1 1, .int .i64 0, .int .i64 0] 25)) w3.heap.size 51 #[.string wS]) := Lib.hid ((Blk.new w3 _ _).alloc _)
  have hB2 : Hid (Blk ((w3.alloc (.cells #[.string wS] 51)).alloc (.cells #[.int .i64 0, .int .i64 1, .slice (some ⟨w3.heap.size, 0, none⟩) 1 1, .int .i64 0, .int .i64 0] 25)) (w3.heap.size + 1) 25 #[.int .i64 0, .int .i64 1, .slice (some ⟨w3.heap.size, 0, none⟩) 1 1, .int .i64 0, .int .i64 0]) := by
    have h := Blk.new (w3.alloc (.cells #[.string wS] 51)) 25 #[.int .i64 0, .int .i64 1, .slice (some ⟨w3.heap.size, 0, none⟩) 1 1, .int .i64 0, .int .i64 0]
    rw [World.size_alloc] at h
    exact h
  have hKa : Hid (Kept w1 ((w3.alloc (.cells #[.string wS] 51)).alloc (.cells #[.int .i64 0, .int .i64 1, .slice (some ⟨w3.heap.size, 0, none⟩) 1 1, .int .i64 0, .int .i64 0] 25))) := Lib.hid ((hK3.alloc _).alloc _)
  have hSa : Hid (((w3.alloc (.cells #[.string wS] 51)).alloc (.cells #[.int .i64 0, .int .i64 1, .slice (some ⟨w3.heap.size, 0, none⟩) 1 1, .int .i64 0, .int .i64 0] 25)).heap.size = w3.heap.size + 2) := Lib.hid (by simp)
  clear O1
  go_wp2_with fail
  refine O2.out.mono ?_
  rintro e w4 ⟨rfl, hK4⟩
  have hB1' := hB1.out.turned hK4 (fun h => h)
  have hB2' := hB2.out.turned hK4 (fun h => h)
  have hK14 := hKa.out.to hK4
  have hs34 : w3.heap.size + 2 ≤ w4.heap.size := by have := hK4.size; have := hSa.out; omega
  have hs13 := hK3.size
  have hA : Hid (Awk w ((w4.alloc (.cells #[.string wS] 51)).alloc (.cells #[.int .i64 0, .int .i64 2, .slice (some ⟨w4.heap.size, 0, none⟩) 1 1, .int .i64 0, .int .i64 0] 25)) p mb w3.heap.size (w3.heap.size + 1) w4.heap.size (w4.heap.size + 1) 0 []) := by
    have h4 := Blk.new (w4.alloc (.cells #[.string wS] 51)) 25 #[.int .i64 0, .int .i64 2, .slice (some ⟨w4.heap.size, 0, none⟩) 1 1, .int .i64 0, .int .i64 0]
    rw [World.size_alloc] at h4
    have hc := hC1.kept ((hK14.alloc (.cells #[.string wS] 51)).alloc (.cells #[.int .i64 0, .int .i64 2, .slice (some ⟨w4.heap.size, 0, none⟩) 1 1, .int .i64 0, .int .i64 0] 25))
    exact ⟨hc, (hB1'.alloc _).alloc _, (hB2'.alloc _).alloc _, (Blk.new w4 _ _).alloc _, h4, fun k hk => ⟨by omega, by omega⟩⟩
  clear O2 hB1 hB2 hKa hSa hB1' hB2' hK14 hK3 hK4
  have hA0 := hA
  clear hA
  have C0 := put_p (ob := 0) (op := 1) (ver := 0) (turn := 0) (a := 1) (till := 5) (who := [wS]) (c := 1) hA0.out.c (by decide) (by decide) (by decide) (by decide) HS.out (reads_blk (fun _ => rfl) hA0.out.b1 [wS] rfl) (i64_small (by decide) (by decide)) (i64_small (by decide) (by decide))
  rw [show putE [wS] 1 = 0 by kernel_rfl, show putXE 1 [] ⟨⟨0, 1, [wS]⟩, 1, 0, 0, 5⟩ = [E1] by kernel_rfl] at C0
  have D0 := Lib.hid C0
  clear C0
  go_wp2_with (first | (refine wpList_load_blk rfl (.tmp 2) rfl rfl hA0.out.b2 Try.underlying25 rfl info_key ?_) | (refine wpList_load_blk rfl (.tmp 3) rfl rfl hA0.out.b4 Try.underlying25 rfl info_key ?_))
  refine D0.out.mono ?_
  rintro e v1 ⟨rfl, hC, hT⟩
  have hA1 := Lib.hid (hA0.out.step hC hT)
  clear hA0 D0 hC hT
  have C1 := get_p (ob := 0) (op := 1) (ver := 0) (turn := 0) (t := 4) (who := [wS]) (c := 1) hA1.out.c (by decide) (by decide) HS.out (reads_blk (fun _ => rfl) hA1.out.b1 [wS] rfl) (i64_small (by decide) (by decide)) (i64_small (by decide) (by decide))
  rw [show hitX ⟨0, 1, [wS]⟩ 0 0 4 [E1] = some E1 by kernel_rfl, show getX ⟨0, 1, [wS]⟩ 0 0 4 [E1] = [E1] by kernel_rfl] at C1
  have D1 := Lib.hid C1
  clear C1
  go_wp2_with (first | (refine wpList_load_blk rfl (.tmp 2) rfl rfl hA1.out.b2 Try.underlying25 rfl info_key ?_) | (refine wpList_load_blk rfl (.tmp 3) rfl rfl hA1.out.b4 Try.underlying25 rfl info_key ?_))
  refine D1.out.mono ?_
  rintro e v2 ⟨rfl, hC, hT⟩
  have hA2 := Lib.hid (hA1.out.step hC hT)
  clear hA1 D1 hC hT
  have C2 := get_p (ob := 0) (op := 1) (ver := 0) (turn := 0) (t := 5) (who := [wS]) (c := 1) hA2.out.c (by decide) (by decide) HS.out (reads_blk (fun _ => rfl) hA2.out.b1 [wS] rfl) (i64_small (by decide) (by decide)) (i64_small (by decide) (by decide))
  rw [show hitX ⟨0, 1, [wS]⟩ 0 0 5 [E1] = none by kernel_rfl, show getX ⟨0, 1, [wS]⟩ 0 0 5 [E1] = [] by kernel_rfl] at C2
  have D2 := Lib.hid C2
  clear C2
  go_wp2_with (first | (refine wpList_load_blk rfl (.tmp 2) rfl rfl hA2.out.b2 Try.underlying25 rfl info_key ?_) | (refine wpList_load_blk rfl (.tmp 3) rfl rfl hA2.out.b4 Try.underlying25 rfl info_key ?_))
  refine D2.out.mono ?_
  rintro e v3 ⟨rfl, hC, hT⟩
  have hA3 := Lib.hid (hA2.out.step hC hT)
  clear hA2 D2 hC hT
  have C3 := Lib.hid (len_p hA3.out.c)
  go_wp2_with (first | (refine wpList_load_blk rfl (.tmp 2) rfl rfl hA3.out.b2 Try.underlying25 rfl info_key ?_) | (refine wpList_load_blk rfl (.tmp 3) rfl rfl hA3.out.b4 Try.underlying25 rfl info_key ?_))
  refine C3.out.mono ?_
  rintro e vx ⟨rfl, rfl⟩
  clear C3
  have C3 := put_p (ob := 0) (op := 1) (ver := 0) (turn := 0) (a := 1) (till := 5) (who := [wS]) (c := 1) hA3.out.c (by decide) (by decide) (by decide) (by decide) HS.out (reads_blk (fun _ => rfl) hA3.out.b1 [wS] rfl) (i64_small (by decide) (by decide)) (i64_small (by decide) (by decide))
  rw [show putE [wS] 1 = 0 by kernel_rfl, show putXE 1 [] ⟨⟨0, 1, [wS]⟩, 1, 0, 0, 5⟩ = [E1] by kernel_rfl] at C3
  have D3 := Lib.hid C3
  clear C3
  go_wp2_with (first | (refine wpList_load_blk rfl (.tmp 2) rfl rfl hA3.out.b2 Try.underlying25 rfl info_key ?_) | (refine wpList_load_blk rfl (.tmp 3) rfl rfl hA3.out.b4 Try.underlying25 rfl info_key ?_))
  refine D3.out.mono ?_
  rintro e v4 ⟨rfl, hC, hT⟩
  have hA4 := Lib.hid (hA3.out.step hC hT)
  clear hA3 D3 hC hT
  have C4 := put_p (ob := 0) (op := 2) (ver := 0) (turn := 0) (a := 2) (till := 9) (who := [wS]) (c := 1) hA4.out.c (by decide) (by decide) (by decide) (by decide) HS.out (reads_blk (fun _ => rfl) hA4.out.b3 [wS] rfl) (i64_small (by decide) (by decide)) (i64_small (by decide) (by decide))
  rw [show putE [wS] 2 = 0 by kernel_rfl, show putXE 1 [E1] ⟨⟨0, 2, [wS]⟩, 2, 0, 0, 9⟩ = [E2] by kernel_rfl] at C4
  have D4 := Lib.hid C4
  clear C4
  go_wp2_with (first | (refine wpList_load_blk rfl (.tmp 2) rfl rfl hA4.out.b2 Try.underlying25 rfl info_key ?_) | (refine wpList_load_blk rfl (.tmp 3) rfl rfl hA4.out.b4 Try.underlying25 rfl info_key ?_))
  refine D4.out.mono ?_
  rintro e v5 ⟨rfl, hC, hT⟩
  have hA5 := Lib.hid (hA4.out.step hC hT)
  clear hA4 D4 hC hT
  have C5 := get_p (ob := 0) (op := 1) (ver := 0) (turn := 0) (t := 1) (who := [wS]) (c := 1) hA5.out.c (by decide) (by decide) HS.out (reads_blk (fun _ => rfl) hA5.out.b1 [wS] rfl) (i64_small (by decide) (by decide)) (i64_small (by decide) (by decide))
  rw [show hitX ⟨0, 1, [wS]⟩ 0 0 1 [E2] = none by kernel_rfl, show getX ⟨0, 1, [wS]⟩ 0 0 1 [E2] = [E2] by kernel_rfl] at C5
  have D5 := Lib.hid C5
  clear C5
  go_wp2_with (first | (refine wpList_load_blk rfl (.tmp 2) rfl rfl hA5.out.b2 Try.underlying25 rfl info_key ?_) | (refine wpList_load_blk rfl (.tmp 3) rfl rfl hA5.out.b4 Try.underlying25 rfl info_key ?_))
  refine D5.out.mono ?_
  rintro e v6 ⟨rfl, hC, hT⟩
  have hA6 := Lib.hid (hA5.out.step hC hT)
  clear hA5 D5 hC hT
  have C6 := get_p (ob := 0) (op := 2) (ver := 0) (turn := 0) (t := 8) (who := [wS]) (c := 1) hA6.out.c (by decide) (by decide) HS.out (reads_blk (fun _ => rfl) hA6.out.b3 [wS] rfl) (i64_small (by decide) (by decide)) (i64_small (by decide) (by decide))
  rw [show hitX ⟨0, 2, [wS]⟩ 0 0 8 [E2] = some E2 by kernel_rfl, show getX ⟨0, 2, [wS]⟩ 0 0 8 [E2] = [E2] by kernel_rfl] at C6
  have D6 := Lib.hid C6
  clear C6
  go_wp2_with (first | (refine wpList_load_blk rfl (.tmp 2) rfl rfl hA6.out.b2 Try.underlying25 rfl info_key ?_) | (refine wpList_load_blk rfl (.tmp 3) rfl rfl hA6.out.b4 Try.underlying25 rfl info_key ?_))
  refine D6.out.mono ?_
  rintro e v7 ⟨rfl, hC, hT⟩
  have hA7 := Lib.hid (hA6.out.step hC hT)
  clear hA6 D6 hC hT
  have C7 := put_p (ob := 0) (op := 0) (ver := 0) (turn := 0) (a := 1) (till := 5) (A := none) (who := []) (c := 0) hA7.out.c (by decide) (by decide) (by decide) (by decide) (by simp) reads_nil (i64_small (by decide) (by decide)) (i64_small (by decide) (by decide))
  rw [show putE [] 1 = 2 by kernel_rfl, show putXE 1 [E2] ⟨⟨0, 0, []⟩, 1, 0, 0, 5⟩ = [E2] by kernel_rfl] at C7
  have D7 := Lib.hid C7
  clear C7
  go_wp2_with (first | (refine wpList_load_blk rfl (.tmp 2) rfl rfl hA7.out.b2 Try.underlying25 rfl info_key ?_) | (refine wpList_load_blk rfl (.tmp 3) rfl rfl hA7.out.b4 Try.underlying25 rfl info_key ?_))
  refine D7.out.mono ?_
  rintro e v8 ⟨rfl, hC, hT⟩
  have hA8 := Lib.hid (hA7.out.step hC hT)
  clear hA7 D7 hC hT
  have C8 := put_p (ob := 0) (op := 1) (ver := 0) (turn := 0) (a := 3) (till := 5) (who := [wS]) (c := 1) hA8.out.c (by decide) (by decide) (by decide) (by decide) HS.out (reads_blk (fun _ => rfl) hA8.out.b1 [wS] rfl) (i64_small (by decide) (by decide)) (i64_small (by decide) (by decide))
  rw [show putE [wS] 3 = 1 by kernel_rfl, show putXE 1 [E2] ⟨⟨0, 1, [wS]⟩, 3, 0, 0, 5⟩ = [E2] by kernel_rfl] at C8
  have D8 := Lib.hid C8
  clear C8
  go_wp2_with (first | (refine wpList_load_blk rfl (.tmp 2) rfl rfl hA8.out.b2 Try.underlying25 rfl info_key ?_) | (refine wpList_load_blk rfl (.tmp 3) rfl rfl hA8.out.b4 Try.underlying25 rfl info_key ?_))
  refine D8.out.mono ?_
  rintro e v9 ⟨rfl, hC, hT⟩
  have hA9 := Lib.hid (hA8.out.step hC hT)
  clear hA8 D8 hC hT
  have C9 := forget_p (ob := 0) hA9.out.c (by decide)
  rw [show forgetX 0 [E2] = [] by kernel_rfl] at C9
  have D9 := Lib.hid C9
  clear C9
  go_wp2_with (first | (refine wpList_load_blk rfl (.tmp 2) rfl rfl hA9.out.b2 Try.underlying25 rfl info_key ?_) | (refine wpList_load_blk rfl (.tmp 3) rfl rfl hA9.out.b4 Try.underlying25 rfl info_key ?_))
  refine D9.out.mono ?_
  rintro e v10 ⟨rfl, hC, hT⟩
  have hA10 := Lib.hid (hA9.out.step hC hT)
  clear hA9 D9 hC hT
  have C10 := Lib.hid (len_p hA10.out.c)
  go_wp2_with (first | (refine wpList_load_blk rfl (.tmp 2) rfl rfl hA10.out.b2 Try.underlying25 rfl info_key ?_) | (refine wpList_load_blk rfl (.tmp 3) rfl rfl hA10.out.b4 Try.underlying25 rfl info_key ?_))
  refine C10.out.mono ?_
  rintro e vx ⟨rfl, rfl⟩
  clear C10
  go_wp2_with fail
  go_ret
  exact ⟨rfl, hA10.out.c.since⟩
end Go.Proofs.Ytnicfiochnkjbaa
