/- The cache's push. -/
import Derived.Test.YtnicfiochnkjbaaC11
namespace Go.Proofs.Ytnicfiochnkjbaa
open Go.RowKit
open Go.Maps (Keyed)

/-- What the range has found: the one of those that have come that was used longest ago. -/
def Found (Y : List (Ent × Int)) (left : List (Value × Value)) (f : Bool) (u : Int) (q : Qu) : Prop :=
  (f = false ∧ ∀ z ∈ Y, entP z ∈ left) ∨ (f = true ∧ ∃ y ∈ Y, y.1.q = q ∧ y.2 = u ∧ ∀ z ∈ Y, entP z ∈ left ∨ y.2 ≤ z.2)
theorem Found.next {Y : List (Ent × Int)} {left left' : List (Value × Value)} {f : Bool} {u : Int} {q : Qu} (h : Found Y left f u q) {z : Ent × Int} (hz : z ∈ Y) (hu : Y.Pairwise (fun a b => a.1.q ≠ b.1.q)) (hall : ∀ y ∈ Y, entOk y.1)
    (hm : ∀ x, x ∈ left' ↔ x ∈ left ∧ x.1 ≠ (entP z).1) : (f = false ∨ z.2 < u → Found Y left' true z.2 z.1.q) ∧ (f = true → ¬ z.2 < u → Found Y left' true u q) := by
  have key : ∀ y ∈ Y, (entP y).1 = (entP z).1 → y = z := fun y hy he => by
    have hq : y.1.q = z.1.q := quV_inj (hall y hy).1 (hall z hz).1 he
    exact List.Pairwise.forall_of_forall_of_flip (R := fun a b : Ent × Int => a.1.q = b.1.q → a = b) (fun _ _ _ => rfl) (hu.imp (fun hne e => absurd e hne)) (hu.imp (fun hne e => absurd e.symm hne)) hy hz hq
  constructor
  · intro hc
    refine .inr ⟨rfl, z, hz, rfl, rfl, fun y hy => ?_⟩
    by_cases hk : (entP y).1 = (entP z).1
    · rw [key y hy hk]
      exact .inr (Int.le_refl _)
    · rcases h with ⟨_, h⟩ | ⟨hf, y0, hy0, _, hu0, h⟩
      · exact .inl ((hm _).2 ⟨h y hy, hk⟩)
      · rcases h y hy with h1 | h1
        · exact .inl ((hm _).2 ⟨h1, hk⟩)
        · right
          rcases hc with hc | hc
          · rw [hf] at hc; cases hc
          · omega
  · intro hf hc
    rcases h with ⟨h, _⟩ | ⟨_, y0, hy0, hq0, hu0, h⟩
    · rw [hf] at h; cases h
    · refine .inr ⟨rfl, y0, hy0, hq0, hu0, fun y hy => ?_⟩
      by_cases hk : (entP y).1 = (entP z).1
      · rw [key y hy hk]
        right
        omega
      · rcases h y hy with h1 | h1
        · exact .inl ((hm _).2 ⟨h1, hk⟩)
        · exact .inr h1
theorem Found.end_ {Y : List (Ent × Int)} {f : Bool} {u : Int} {q : Qu} {y : Ent × Int} (h : Found (y :: Y) [] f u q) (hr : (y :: Y).Pairwise (fun a b => a.2 < b.2)) : f = true ∧ q = y.1.q := by
  rcases h with ⟨_, h⟩ | ⟨hf, y0, hy0, hq0, _, h⟩
  · exact absurd (h y (by simp)) (by simp)
  · refine ⟨hf, ?_⟩
    have h1 : y0.2 ≤ y.2 := by
      rcases h y (by simp) with h1 | h1
      · simp at h1
      · exact h1
    rcases List.mem_cons.1 hy0 with rfl | hy0
    · exact hq0.symm
    · have := (List.pairwise_cons.1 hr).1 y0 hy0
      omega
/-- The first one gone. -/
theorem perm_tail {Y : List (Ent × Int)} {y : Ent × Int} {l l' : List (Value × Value)} (h : l.Perm ((y :: Y).map entP)) (h2 : l.Perm (entP y :: l')) : l'.Perm (Y.map entP) := by
  have : (entP y :: l').Perm (entP y :: Y.map entP) := h2.symm.trans h
  exact this.cons_inv
theorem info_ans : (Try.prog.info? 99).map (·.size) = some 5 := by kernel_rfl

set_option maxRecDepth 100000 in
set_option maxHeartbeats 4000000 in
theorem push_any {w : World} {p mb : Nat} {room uses : Int} {Y : List (Ent × Int)} {y : Ent × Int} (h : CacheIs w p mb room uses (y :: Y)) (hu : uses ≤ 9223372036854775807) :
    Calls Try.prog 45 #[.pointer (some ⟨p, 0, none⟩)] w fun e w' => e = .returned (.tuple #[]) ∧ CacheIs w' p mb room uses Y ∧ Turned (fun k => k = mb) w w' := by
  have H := Lib.hid h
  obtain ⟨c0, c1, c2⟩ := h.cells
  obtain ⟨hp0, hm0⟩ := h.lt
  obtain ⟨l, hl, hperm⟩ := h.map
  have HP := Lib.hid hperm
  have hl0 := hl.alloc (.cells #[.int .i64 0, .int .i64 0, .string ⟨#[]⟩, .string ⟨#[]⟩, .string ⟨#[]⟩, .string ⟨#[]⟩, .string ⟨#[]⟩, .string ⟨#[]⟩, .string ⟨#[]⟩, .string ⟨#[]⟩, .string ⟨#[]⟩, .string ⟨#[]⟩, .string ⟨#[]⟩, .string ⟨#[]⟩, .string ⟨#[]⟩, .string ⟨#[]⟩, .string ⟨#[]⟩, .string ⟨#[]⟩] 94)
  have hB0 : Hid (Blk (w.alloc (.cells #[.int .i64 0, .int .i64 0, .string ⟨#[]⟩, .string ⟨#[]⟩, .string ⟨#[]⟩, .string ⟨#[]⟩, .string ⟨#[]⟩, .string ⟨#[]⟩, .string ⟨#[]⟩, .string ⟨#[]⟩, .string ⟨#[]⟩, .string ⟨#[]⟩, .string ⟨#[]⟩, .string ⟨#[]⟩, .string ⟨#[]⟩, .string ⟨#[]⟩, .string ⟨#[]⟩, .string ⟨#[]⟩] 94)) w.heap.size 94 (quC noQ)) := Lib.hid (Blk.new w _ _)
  have hT0 : Hid (Turned (fun k => w.heap.size ≤ k) w (w.alloc (.cells #[.int .i64 0, .int .i64 0, .string ⟨#[]⟩, .string ⟨#[]⟩, .string ⟨#[]⟩, .string ⟨#[]⟩, .string ⟨#[]⟩, .string ⟨#[]⟩, .string ⟨#[]⟩, .string ⟨#[]⟩, .string ⟨#[]⟩, .string ⟨#[]⟩, .string ⟨#[]⟩, .string ⟨#[]⟩, .string ⟨#[]⟩, .string ⟨#[]⟩, .string ⟨#[]⟩, .string ⟨#[]⟩] 94))) := Lib.hid ((Turned.refl _ w).alloc _)
  clear h c0 c1 hperm hl
  go_enter Try.func45, Try.ntmps45
  go_wp2_with (at_range; refine wpList_range_raw _ rfl _ 88 rfl 94 99 Try.underlying88 mb l rfl hl0 ?_; intro w3 hrg3 hK3 hs3)
  go_frame
  have hB3 := Blk.turned hB0.out hK3 (fun h => h)
  have hT3 := hT0.out.then_ hK3 (fun i hi h => h.elim)
  rw [World.size_alloc] at hrg3 hs3 ⊢
  have hs3' : w.heap.size + 1 < w3.heap.size := by omega
  clear hB0 hT0 hK3 hl0 hs3
  go_loopg [3, 4] l.length (fun gk su sf wr => ∃ left f u q, left.length = gk ∧ su = .int .i64 u ∧ sf = .bool f ∧ Found (y :: Y) left f u q ∧ RangeAt wr Try.prog 94 mb (w.heap.size + 1) l left ∧ Blk wr w.heap.size 94 (quC q) ∧ Turned (fun k => w.heap.size ≤ k) w wr ∧ w.heap.size + 1 < wr.heap.size)
  case atStart => exact ⟨l, false, 0, noQ, rfl, rfl, rfl, .inl ⟨rfl, fun z hz => HP.out.mem_iff.2 (List.mem_map_of_mem hz)⟩, hrg3, hB3, hT3, hs3'⟩
  case round =>
    clear hrg3 hB3 hT3 hs3'
    obtain ⟨left, f, u, q, hgk, rfl, rfl, hF, hrg, hold, hT, hsz⟩ := hrel
    have HF := Lib.hid hF
    clear hF
    go_wp2_with (at_next; refine wpList_next_raw _ rfl _ rfl 94 mb (w.heap.size + 1) l left rfl hrg ?_ ?_)
    · intro hl0
      subst hl0
      have hE := HF.out.end_ H.out.rise
      obtain ⟨rfl, rfl⟩ := hE
      have hm := hrg.map
      have hin : entP y ∈ l := HP.out.mem_iff.2 (List.mem_map_of_mem (by simp))
      obtain ⟨w9, l9, hrun, hm9, hp9, hT9, _⟩ := (hm.drew).del_yes key_qu Try.underlying88 hin 0
      have hplt : p < wr.heap.size := Nat.lt_of_lt_of_le hp0 hT.size
      have hpm : p ≠ mb := H.out.ne
      have hom : w.heap.size ≠ mb := by omega
      have c2' : wr.cell? ⟨p, 2, none⟩ = some (.map (some mb)) := (hT.cell (p := ⟨p, 2, none⟩) hp0 (by show ¬ w.heap.size ≤ p; omega)).trans c2
      have HC : Hid (CacheIs w9 p mb room uses Y) := by
        have hb := (H.out.blk.turned hT (by show ¬ w.heap.size ≤ p; omega)).turned ((Turned.refl (fun i => i = mb) wr).drew.then_ hT9 (fun _ _ h => h)) hpm
        exact ⟨hb, ⟨l9, hm9, perm_tail HP.out hp9⟩, (List.pairwise_cons.1 H.out.rise).2, fun z hz => H.out.all z (by simp [hz]), H.out.nn, fun z hz => H.out.pos z (by simp [hz])⟩
      have HT : Hid (Turned (fun k => k = mb) w w9) := by
        exact ((hT.mono (S' := fun k => k = mb) (fun i hi h => by omega)).drew).then_ hT9 (fun _ _ h => h)
      clear c2
      have c2 := c2'
      clear c2' hm hm9 hp9 HF hrg hin
      go_wp2_with fail
      refine wp_region_held_drew (S := fun W => W.cell? ⟨p, 2, none⟩ = some (.map (some mb)) ∧ Blk W w.heap.size 94 (quC y.1.q)) (by kernel_rfl) ⟨c2, hold⟩ (fun hHeld => ?_)
      refine held_take 0 28 (v := ?_) ⟨_, rfl, rfl, by rfl, ?_⟩ (by kernel_rfl) (by kernel_rfl) (by kernel_rfl) (fun _ _ _ h => h) hHeld ?_
      rotate_left
      · (intro w hSw; (try dsimp only at hSw); go_simp; try with_reducible rfl)
      simp only [Act.put, List.setIfInBounds_toArray, List.set_cons_zero, List.set_cons_succ]
      refine held_take 1 29 (v := ?_) ⟨_, rfl, rfl, by rfl, ?_⟩ (by kernel_rfl) (by kernel_rfl) (by kernel_rfl) (fun _ _ _ h => h) hHeld ?_
      rotate_left
      · (intro w hSw; (try dsimp only at hSw); go_simp; try with_reducible rfl)
      simp only [Act.put, List.setIfInBounds_toArray, List.set_cons_zero, List.set_cons_succ]
      refine held_take 2 30 (v := ?_) ⟨_, rfl, rfl, by rfl, ?_⟩ (by kernel_rfl) (by kernel_rfl) (by kernel_rfl) (fun _ _ _ h => h) hHeld ?_
      rotate_left
      · (intro w hSw; (try dsimp only at hSw); go_simp; try with_reducible rfl)
      simp only [Act.put, List.setIfInBounds_toArray, List.set_cons_zero, List.set_cons_succ]
      refine held_take 3 31 (v := ?_) ⟨_, rfl, rfl, by rfl, ?_⟩ (by kernel_rfl) (by kernel_rfl) (by kernel_rfl) (fun _ _ _ h => h) hHeld ?_
      rotate_left
      · (intro w hSw; (try dsimp only at hSw); go_simp; try with_reducible rfl)
      simp only [Act.put, List.setIfInBounds_toArray, List.set_cons_zero, List.set_cons_succ]
      refine held_take 4 32 ⟨_, rfl, rfl, by rfl, fun W hW => exec_load_blk (.tmp 2) rfl rfl hW.2 Try.underlying94 rfl (by rw [quC_size]; exact info_qu)⟩ (by kernel_rfl) (by kernel_rfl) (by kernel_rfl) (fun _ _ _ h => h) hHeld ?_
      simp only [Act.put, List.setIfInBounds_toArray, List.set_cons_zero, List.set_cons_succ]
      refine wpAnyH_ready (rs := [5]) (by kernel_rfl) (by simp) ?_
      refine AllReadyH.cons (o := _) rfl (fun K hK => ?_) AllReadyH.nil
      rw [if_pos (by rfl)]
      refine wp_delete_run (.tmp 31) (.tmp 32) 88 94 rfl rfl rfl hrun ?_
      rw [put_none (by rfl)]
      refine hK.out _ _ ⟨(hT9.cell (p := ⟨p, 2, none⟩) hplt (fun e => hpm e)).trans c2, Blk.turned (Blk.drew hold) hT9 hom⟩ (fun hHeld => ?_)
      clear hK K
      refine wpAnyH_done (by kernel_rfl) ?_ _
      go_wp2_with fail
      go_end0
      exact ⟨rfl, HC.out, HT.out⟩
    · rintro pr w5 left' hp hpl hrg5 hlt hmem hT5 hs5 hen
      obtain ⟨z, hz, rfl⟩ := List.mem_map.1 (HP.out.mem_iff.1 hpl)
      have hN := HF.out.next hz H.out.keys (fun y hy => (H.out.all y hy).2) hmem
      have hsz5 : w.heap.size + 1 < w5.heap.size := by omega
      have hold5 := hold.turned hT5 (by omega)
      have hT15 := hT.then_ hT5 (fun i hi h => by omega)
      obtain ⟨zx, zu⟩ := z
      have hzw : wu zu = zu := wu_small (H.out.pos _ hz) (Int.le_trans (H.out.all _ hz).1 hu)
      simp only [entP, ansV, hzw] at hen hN
      clear hzw
      have hBq : Hid (Blk ((w5.alloc (.cells #[.int .i64 0, .int .i64 0, .string ⟨#[]⟩, .string ⟨#[]⟩, .string ⟨#[]⟩, .string ⟨#[]⟩, .string ⟨#[]⟩, .string ⟨#[]⟩, .string ⟨#[]⟩, .string ⟨#[]⟩, .string ⟨#[]⟩, .string ⟨#[]⟩, .string ⟨#[]⟩, .string ⟨#[]⟩, .string ⟨#[]⟩, .string ⟨#[]⟩, .string ⟨#[]⟩, .string ⟨#[]⟩] 94)).alloc (.cells #[.int .i64 0, .int .i64 0, .int .i64 0, .int .i64 0, .int .i64 0] 99)) w5.heap.size 94 (quC noQ)) := Lib.hid ((Blk.new w5 _ _).alloc _)
      have hBx : Hid (Blk ((w5.alloc (.cells #[.int .i64 0, .int .i64 0, .string ⟨#[]⟩, .string ⟨#[]⟩, .string ⟨#[]⟩, .string ⟨#[]⟩, .string ⟨#[]⟩, .string ⟨#[]⟩, .string ⟨#[]⟩, .string ⟨#[]⟩, .string ⟨#[]⟩, .string ⟨#[]⟩, .string ⟨#[]⟩, .string ⟨#[]⟩, .string ⟨#[]⟩, .string ⟨#[]⟩, .string ⟨#[]⟩, .string ⟨#[]⟩] 94)).alloc (.cells #[.int .i64 0, .int .i64 0, .int .i64 0, .int .i64 0, .int .i64 0] 99)) (w5.heap.size + 1) 99 #[.int .i64 0, .int .i64 0, .int .i64 0, .int .i64 0, .int .i64 0]) := by
        have hb := Blk.new (w5.alloc (.cells #[.int .i64 0, .int .i64 0, .string ⟨#[]⟩, .string ⟨#[]⟩, .string ⟨#[]⟩, .string ⟨#[]⟩, .string ⟨#[]⟩, .string ⟨#[]⟩, .string ⟨#[]⟩, .string ⟨#[]⟩, .string ⟨#[]⟩, .string ⟨#[]⟩, .string ⟨#[]⟩, .string ⟨#[]⟩, .string ⟨#[]⟩, .string ⟨#[]⟩, .string ⟨#[]⟩, .string ⟨#[]⟩] 94)) 99 #[.int .i64 0, .int .i64 0, .int .i64 0, .int .i64 0, .int .i64 0]
        rw [World.size_alloc] at hb
        exact hb
      have hTa : Hid (Turned (fun k => w5.heap.size ≤ k) w5 ((w5.alloc (.cells #[.int .i64 0, .int .i64 0, .string ⟨#[]⟩, .string ⟨#[]⟩, .string ⟨#[]⟩, .string ⟨#[]⟩, .string ⟨#[]⟩, .string ⟨#[]⟩, .string ⟨#[]⟩, .string ⟨#[]⟩, .string ⟨#[]⟩, .string ⟨#[]⟩, .string ⟨#[]⟩, .string ⟨#[]⟩, .string ⟨#[]⟩, .string ⟨#[]⟩, .string ⟨#[]⟩, .string ⟨#[]⟩] 94)).alloc (.cells #[.int .i64 0, .int .i64 0, .int .i64 0, .int .i64 0, .int .i64 0] 99))) := Lib.hid (((Turned.refl _ w5).alloc _).alloc _)
      have hSa : Hid (((w5.alloc (.cells #[.int .i64 0, .int .i64 0, .string ⟨#[]⟩, .string ⟨#[]⟩, .string ⟨#[]⟩, .string ⟨#[]⟩, .string ⟨#[]⟩, .string ⟨#[]⟩, .string ⟨#[]⟩, .string ⟨#[]⟩, .string ⟨#[]⟩, .string ⟨#[]⟩, .string ⟨#[]⟩, .string ⟨#[]⟩, .string ⟨#[]⟩, .string ⟨#[]⟩, .string ⟨#[]⟩, .string ⟨#[]⟩] 94)).alloc (.cells #[.int .i64 0, .int .i64 0, .int .i64 0, .int .i64 0, .int .i64 0] 99)).heap.size = w5.heap.size + 2) := Lib.hid (by simp)
      have HLT := Lib.hid hlt
      have HGK := Lib.hid hgk
      clear hp hpl hmem hT5 hs5 hold hT hrg hlt hgk
      rcases f with _ | _
      · have HN := Lib.hid (hN.1 (.inl rfl))
        clear hN HF
        have dz : (0 : Int) = 0 := rfl
        go_wp2_with (first
          | (refine wpList_store_blk rfl (.tmp 5) (.tmp 15) rfl rfl (cs' := quC zx.q) rfl hBq.out (by rw [quC_size]; exact info_qu) (by rw [quC_size, quC_size]) (quC_one _) ?_; intro w6 hq6 hT6 hs6; have hx6 := hBx.out.turned hT6 (by omega))
          | (refine wpList_store_blk rfl (.tmp 6) (.tmp 16) rfl rfl (cs' := #[.int .i64 zx.told, .int .i64 zx.ver, .int .i64 zx.turn, .int .i64 zx.till, .int .i64 zu]) rfl hx6 info_ans rfl (by simp [Value.oneCell']) ?_; intro w7 hB7 hT7 hs7; have hx7 : w7.cell? ⟨w5.heap.size + 1, 4, none⟩ = some (.int .i64 zu) := hB7.cell 4))
        have hT57 : Turned (fun k => w5.heap.size ≤ k) w5 w7 := (hTa.out.then_ hT6 (fun i hi h => by omega)).then_ hT7 (fun i hi h => by omega)
        have hold7 := hold5.turned hT57 (by omega)
        have hT17 := hT15.then_ hT57 (fun i hi h => by omega)
        have hq7 := hq6.turned hT7 (by omega)
        have hsz7 : w.heap.size + 1 < w7.heap.size := by have := hT57.size; omega
        have hgx : w5.heap.size + 1 < w7.heap.size := by have := hB7.lt; omega
        have hne1 : w5.heap.size ≠ w.heap.size := by omega
        have hne2 : w5.heap.size + 1 ≠ w.heap.size := by omega
        clear hx6 hq6 hT6 hT7 hs6 hs7 hBq hBx hTa hSa hold5
        refine wp_region_held_drew (S := fun W => Blk W w5.heap.size 94 (quC zx.q) ∧ W.cell? ⟨w5.heap.size + 1, 4, none⟩ = some (.int .i64 zu)) (by kernel_rfl) ⟨hq7, hx7⟩ (fun hHeld => ?_)
        refine held_take 0 25 ⟨_, rfl, rfl, by rfl, fun W hW => exec_load_blk (.tmp 5) rfl rfl hW.1 Try.underlying94 rfl (by rw [quC_size]; exact info_qu)⟩ (by kernel_rfl) (by kernel_rfl) (by kernel_rfl) (fun _ _ _ h => h) hHeld ?_
        simp only [Act.put, List.setIfInBounds_toArray, List.set_cons_zero, List.set_cons_succ]
        refine held_take 1 26 (v := ?_) ⟨_, rfl, rfl, by rfl, ?_⟩ (by kernel_rfl) (by kernel_rfl) (by kernel_rfl) (fun _ _ _ h => h) hHeld ?_
        rotate_left
        · (intro w hSw; (try dsimp only at hSw); go_simp; try with_reducible rfl)
        simp only [Act.put, List.setIfInBounds_toArray, List.set_cons_zero, List.set_cons_succ]
        refine held_take 2 27 (v := ?_) ⟨_, rfl, rfl, by rfl, ?_⟩ (by kernel_rfl) (by kernel_rfl) (by kernel_rfl) (fun _ _ _ h => h) hHeld ?_
        rotate_left
        · (intro w hSw; (try dsimp only at hSw); go_simp; try with_reducible rfl)
        simp only [Act.put, List.setIfInBounds_toArray, List.set_cons_zero, List.set_cons_succ]
        refine wpAnyH_ready (rs := [3]) (by kernel_rfl) (by simp) ?_
        refine AllReadyH.cons (o := _) rfl (fun K hK => ?_) AllReadyH.nil
        rw [if_pos (by rfl)]
        refine wp_store_blk (.tmp 2) (.tmp 25) rfl rfl rfl hold7 (by rw [quC_size]; exact info_qu) (by rw [quC_size, quC_size]) (quC_one _) (fun hB8 hT8 hs8 => ?_)
        rw [put_none (by rfl)]
        refine hK.out _ _ ⟨Blk.turned (Blk.drew hq7) hT8 hne1, (hT8.cell (p := ⟨w5.heap.size + 1, 4, none⟩) hgx hne2).trans hx7⟩ (fun hHeld => ?_)
        clear hK K
        refine held_take 4 3 (v := ?_) ⟨_, rfl, rfl, by rfl, ?_⟩ (by kernel_rfl) (by kernel_rfl) (by kernel_rfl) (fun _ _ _ h => h) hHeld ?_
        rotate_left
        · (intro w hSw; (try dsimp only at hSw); go_simp; try with_reducible rfl)
        simp only [Act.put, List.setIfInBounds_toArray, List.set_cons_zero, List.set_cons_succ]
        refine held_take 5 4 (v := ?_) ⟨_, rfl, rfl, by rfl, ?_⟩ (by kernel_rfl) (by kernel_rfl) (by kernel_rfl) (fun _ _ _ h => h) hHeld ?_
        rotate_left
        · (intro w hSw; (try dsimp only at hSw); go_simp; try with_reducible rfl)
        simp only [Act.put, List.setIfInBounds_toArray, List.set_cons_zero, List.set_cons_succ]
        refine wpAnyH_done (by kernel_rfl) ?_ _
        have hT78 : Turned (fun k => k = w.heap.size) w7 _ := ((Turned.refl _ w7).drew).then_ hT8 (fun _ _ h => h)
        have hr8 := (hrg5.turned hT57 (by omega) (by omega)).turned hT78 (by omega) (by omega)
        have hT18 := hT17.then_ hT78 (fun i hi h => by omega)
        have hsz8 := hT78.size
        go_wp2_with fail
        go_roundg left'.length
        case measure => have := HLT.out; have := HGK.out; omega
        case rel => exact ⟨left', true, zu, zx.q, rfl, rfl, rfl, HN.out, hr8, hB8, hT18, by omega⟩
      · by_cases hzu : zu < u
        · have HN := Lib.hid (hN.1 (.inr hzu))
          clear hN HF
          have dz : decide (zu < u) = true := by simpa using hzu
          go_wp2_with (first
            | (refine wpList_store_blk rfl (.tmp 5) (.tmp 15) rfl rfl (cs' := quC zx.q) rfl hBq.out (by rw [quC_size]; exact info_qu) (by rw [quC_size, quC_size]) (quC_one _) ?_; intro w6 hq6 hT6 hs6; have hx6 := hBx.out.turned hT6 (by omega))
            | (refine wpList_store_blk rfl (.tmp 6) (.tmp 16) rfl rfl (cs' := #[.int .i64 zx.told, .int .i64 zx.ver, .int .i64 zx.turn, .int .i64 zx.till, .int .i64 zu]) rfl hx6 info_ans rfl (by simp [Value.oneCell']) ?_; intro w7 hB7 hT7 hs7; have hx7 : w7.cell? ⟨w5.heap.size + 1, 4, none⟩ = some (.int .i64 zu) := hB7.cell 4))
          have hT57 : Turned (fun k => w5.heap.size ≤ k) w5 w7 := (hTa.out.then_ hT6 (fun i hi h => by omega)).then_ hT7 (fun i hi h => by omega)
          have hold7 := hold5.turned hT57 (by omega)
          have hT17 := hT15.then_ hT57 (fun i hi h => by omega)
          have hq7 := hq6.turned hT7 (by omega)
          have hsz7 : w.heap.size + 1 < w7.heap.size := by have := hT57.size; omega
          have hgx : w5.heap.size + 1 < w7.heap.size := by have := hB7.lt; omega
          have hne1 : w5.heap.size ≠ w.heap.size := by omega
          have hne2 : w5.heap.size + 1 ≠ w.heap.size := by omega
          clear hx6 hq6 hT6 hT7 hs6 hs7 hBq hBx hTa hSa hold5
          refine wp_region_held_drew (S := fun W => Blk W w5.heap.size 94 (quC zx.q) ∧ W.cell? ⟨w5.heap.size + 1, 4, none⟩ = some (.int .i64 zu)) (by kernel_rfl) ⟨hq7, hx7⟩ (fun hHeld => ?_)
          refine held_take 0 25 ⟨_, rfl, rfl, by rfl, fun W hW => exec_load_blk (.tmp 5) rfl rfl hW.1 Try.underlying94 rfl (by rw [quC_size]; exact info_qu)⟩ (by kernel_rfl) (by kernel_rfl) (by kernel_rfl) (fun _ _ _ h => h) hHeld ?_
          simp only [Act.put, List.setIfInBounds_toArray, List.set_cons_zero, List.set_cons_succ]
          refine held_take 1 26 (v := ?_) ⟨_, rfl, rfl, by rfl, ?_⟩ (by kernel_rfl) (by kernel_rfl) (by kernel_rfl) (fun _ _ _ h => h) hHeld ?_
          rotate_left
          · (intro w hSw; (try dsimp only at hSw); go_simp; try with_reducible rfl)
          simp only [Act.put, List.setIfInBounds_toArray, List.set_cons_zero, List.set_cons_succ]
          refine held_take 2 27 (v := ?_) ⟨_, rfl, rfl, by rfl, ?_⟩ (by kernel_rfl) (by kernel_rfl) (by kernel_rfl) (fun _ _ _ h => h) hHeld ?_
          rotate_left
          · (intro w hSw; (try dsimp only at hSw); go_simp; try with_reducible rfl)
          simp only [Act.put, List.setIfInBounds_toArray, List.set_cons_zero, List.set_cons_succ]
          refine wpAnyH_ready (rs := [3]) (by kernel_rfl) (by simp) ?_
          refine AllReadyH.cons (o := _) rfl (fun K hK => ?_) AllReadyH.nil
          rw [if_pos (by rfl)]
          refine wp_store_blk (.tmp 2) (.tmp 25) rfl rfl rfl hold7 (by rw [quC_size]; exact info_qu) (by rw [quC_size, quC_size]) (quC_one _) (fun hB8 hT8 hs8 => ?_)
          rw [put_none (by rfl)]
          refine hK.out _ _ ⟨Blk.turned (Blk.drew hq7) hT8 hne1, (hT8.cell (p := ⟨w5.heap.size + 1, 4, none⟩) hgx hne2).trans hx7⟩ (fun hHeld => ?_)
          clear hK K
          refine held_take 4 3 (v := ?_) ⟨_, rfl, rfl, by rfl, ?_⟩ (by kernel_rfl) (by kernel_rfl) (by kernel_rfl) (fun _ _ _ h => h) hHeld ?_
          rotate_left
          · (intro w hSw; (try dsimp only at hSw); go_simp; try with_reducible rfl)
          simp only [Act.put, List.setIfInBounds_toArray, List.set_cons_zero, List.set_cons_succ]
          refine held_take 5 4 (v := ?_) ⟨_, rfl, rfl, by rfl, ?_⟩ (by kernel_rfl) (by kernel_rfl) (by kernel_rfl) (fun _ _ _ h => h) hHeld ?_
          rotate_left
          · (intro w hSw; (try dsimp only at hSw); go_simp; try with_reducible rfl)
          simp only [Act.put, List.setIfInBounds_toArray, List.set_cons_zero, List.set_cons_succ]
          refine wpAnyH_done (by kernel_rfl) ?_ _
          have hT78 : Turned (fun k => k = w.heap.size) w7 _ := ((Turned.refl _ w7).drew).then_ hT8 (fun _ _ h => h)
          have hr8 := (hrg5.turned hT57 (by omega) (by omega)).turned hT78 (by omega) (by omega)
          have hT18 := hT17.then_ hT78 (fun i hi h => by omega)
          have hsz8 := hT78.size
          go_wp2_with fail
          go_roundg left'.length
          case measure => have := HLT.out; have := HGK.out; omega
          case rel => exact ⟨left', true, zu, zx.q, rfl, rfl, rfl, HN.out, hr8, hB8, hT18, by omega⟩
        · have HN := Lib.hid (hN.2 rfl hzu)
          clear hN HF
          have dz : decide (zu < u) = false := by simpa using hzu
          go_wp2_with (first
            | (refine wpList_store_blk rfl (.tmp 5) (.tmp 15) rfl rfl (cs' := quC zx.q) rfl hBq.out (by rw [quC_size]; exact info_qu) (by rw [quC_size, quC_size]) (quC_one _) ?_; intro w6 hq6 hT6 hs6; have hx6 := hBx.out.turned hT6 (by omega))
            | (refine wpList_store_blk rfl (.tmp 6) (.tmp 16) rfl rfl (cs' := #[.int .i64 zx.told, .int .i64 zx.ver, .int .i64 zx.turn, .int .i64 zx.till, .int .i64 zu]) rfl hx6 info_ans rfl (by simp [Value.oneCell']) ?_; intro w7 hB7 hT7 hs7; have hx7 : w7.cell? ⟨w5.heap.size + 1, 4, none⟩ = some (.int .i64 zu) := hB7.cell 4))
          have hT57 : Turned (fun k => w5.heap.size ≤ k) w5 w7 := (hTa.out.then_ hT6 (fun i hi h => by omega)).then_ hT7 (fun i hi h => by omega)
          have hold7 := hold5.turned hT57 (by omega)
          have hT17 := hT15.then_ hT57 (fun i hi h => by omega)
          have hq7 := hq6.turned hT7 (by omega)
          have hsz7 : w.heap.size + 1 < w7.heap.size := by have := hT57.size; omega
          have hr7 := hrg5.turned hT57 (by omega) (by omega)
          go_roundg left'.length
          case measure => have := HLT.out; have := HGK.out; omega
          case rel => exact ⟨left', true, u, q, rfl, rfl, rfl, HN.out, hr7, hold7, hT17, hsz7⟩
end Go.Proofs.Ytnicfiochnkjbaa
