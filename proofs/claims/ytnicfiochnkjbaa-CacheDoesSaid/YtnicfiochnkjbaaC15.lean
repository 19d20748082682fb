/- The cache's Forget. -/
import Derived.Test.YtnicfiochnkjbaaC14
namespace Go.Proofs.Ytnicfiochnkjbaa
open Go.RowKit
open Go.Maps (Keyed)

def forgetY (ob : Int) (Y : List (Ent × Int)) : List (Ent × Int) := Y.filter (fun y => decide (y.1.q.obj ≠ ob))
/-- What the range leaves. -/
structure Forgets (Y Yc : List (Ent × Int)) (ob : Int) (left : List (Value × Value)) : Prop where
  sub : Yc.Sublist Y
  stay : ∀ z ∈ Y, z.1.q.obj ≠ ob → z ∈ Yc
  come : ∀ z ∈ Yc, z.1.q.obj = ob → entP z ∈ left
theorem nodup_len {α : Type} : ∀ {l m : List α}, l.Nodup → (∀ x ∈ l, x ∈ m) → l.length ≤ m.length
  | [], _, _, _ => Nat.zero_le _
  | x :: l, m, hn, hs => by
    obtain ⟨h1, h2⟩ := List.nodup_cons.1 hn
    obtain ⟨a, b, rfl⟩ := List.append_of_mem (hs x (by simp))
    have := nodup_len (m := a ++ b) h2 (fun y hy => by
      have := hs y (by simp [hy])
      rcases List.mem_append.1 this with h | h
      · exact List.mem_append.2 (.inl h)
      · rcases List.mem_cons.1 h with rfl | h
        · exact absurd hy h1
        · exact List.mem_append.2 (.inr h))
    simp only [List.length_append, List.length_cons] at this ⊢
    omega
theorem Forgets.end_ {Y Yc : List (Ent × Int)} {ob : Int} (h : Forgets Y Yc ob []) (hr : Y.Pairwise (fun a b => a.2 < b.2)) : Yc = forgetY ob Y := by
  have hall : ∀ z ∈ Yc, z.1.q.obj ≠ ob := fun z hz e => by cases h.come z hz e
  have h1 : Yc.filter (fun y => decide (y.1.q.obj ≠ ob)) = Yc := List.filter_eq_self.2 (fun z hz => decide_eq_true (hall z hz))
  have h2 : Yc.Sublist (forgetY ob Y) := by
    rw [← h1]
    exact h.sub.filter _
  refine h2.eq_of_length_le ?_
  have hnd : (forgetY ob Y).Nodup := (hr.sublist (List.filter_sublist ..)).imp (fun hlt e => by rw [e] at hlt; omega)
  exact nodup_len hnd (fun z hz => h.stay z (List.mem_filter.1 hz).1 (of_decide_eq_true (List.mem_filter.1 hz).2))
theorem dropY_sub (q : Qu) (Y : List (Ent × Int)) : (dropY q Y).Sublist Y := List.filter_sublist ..
theorem dropY_len {Y : List (Ent × Int)} {z : Ent × Int} (hk : Y.Pairwise (fun a b => a.1.q ≠ b.1.q)) (hz : z ∈ Y) : (dropY z.1.q Y).length + 1 = Y.length := by
  have := (dropY_perm hk hz rfl).length_eq
  rw [List.length_cons] at this
  omega

set_option maxRecDepth 100000 in
set_option maxHeartbeats 4000000 in
theorem forget_any {w : World} {p mb : Nat} {room uses : Int} {Y : List (Ent × Int)} (h : CacheIs w p mb room uses Y) (ob : Int) (hY : Y.length ≤ 1000000) :
    Calls Try.prog 19 #[.pointer (some ⟨p, 0, none⟩), .int .i64 ob] w fun e w' => e = .returned (.int .i64 ((Y.length : Int) - ((forgetY ob Y).length : Int))) ∧ CacheIs w' p mb room uses (forgetY ob Y) ∧ Turned (fun k => k = mb) w w' := by
  have H := Lib.hid h
  obtain ⟨c0, c1, c2⟩ := h.cells
  obtain ⟨hp0, hm0⟩ := h.lt
  obtain ⟨l, hl, hperm⟩ := h.map
  have hpm : p ≠ mb := h.ne
  have HP := Lib.hid hperm
  have HN := Lib.hid (ent_len hperm)
  clear h c0 c1 hperm
  go_enter Try.func19, Try.ntmps19
  go_wp2_with (at_range; refine wpList_range_raw _ rfl _ 88 rfl 94 99 Try.underlying88 mb l rfl hl ?_; intro w3 hrg3 hK3 hs3)
  go_frame
  have hT3 : Turned (fun k => w.heap.size ≤ k ∨ k = mb) w w3 := hK3.mono (fun i hi h => h.elim)
  have hs3' : w.heap.size < w3.heap.size := by omega
  have hC3 := H.out.kept hK3
  clear hK3 hs3 hl
  go_loopg [5] l.length (fun gk sn wr => ∃ left lc Yc, left.length = gk ∧ sn = .int .i64 ((Y.length : Int) - (Yc.length : Int)) ∧ Forgets Y Yc ob left ∧ RangeAt wr Try.prog 94 mb w.heap.size lc left ∧ lc.Perm (Yc.map entP) ∧ CacheIs wr p mb room uses Yc ∧ Turned (fun k => w.heap.size ≤ k ∨ k = mb) w wr ∧ w.heap.size < wr.heap.size)
  case atStart => exact ⟨l, l, Y, rfl, by rw [Int.sub_self], ⟨List.Sublist.refl _, fun z hz _ => hz, fun z hz _ => HP.out.mem_iff.2 (List.mem_map_of_mem hz)⟩, hrg3, HP.out, hC3, hT3, hs3'⟩
  case round =>
    clear hrg3 hC3 hT3 hs3'
    obtain ⟨left, lc, Yc, hgk, rfl, hF, hrg, hpc, hC, hT, hsz⟩ := hrel
    have HF := Lib.hid hF
    have HPC := Lib.hid hpc
    clear hF hpc
    go_wp2_with (at_next; refine wpList_next_raw _ rfl _ rfl 94 mb w.heap.size lc left rfl hrg ?_ ?_)
    · intro hl0
      subst hl0
      have hE := HF.out.end_ H.out.rise
      subst hE
      have HT : Hid (Turned (fun k => k = mb) w wr) := Lib.hid (hT.mono (fun i hi h => by omega))
      clear HF HPC hrg hT
      go_wp2_with fail
      go_ret
      exact ⟨rfl, hC, HT.out⟩
    · rintro pr w5 left' hp hpl hrg5 hlt hmem hT5 hs5 hen
      obtain ⟨z, hz, rfl⟩ := List.mem_map.1 (HPC.out.mem_iff.1 hpl)
      have hmr : mb ≠ w.heap.size := by omega
      have hsz5 : w.heap.size < w5.heap.size := by omega
      have hC5 := hC.turned hT5 (by omega) hmr
      have hT15 := hT.then_ hT5 (fun i hi h => by omega)
      have hYc : Yc.length ≤ Y.length := HF.out.sub.length_le
      have HMEM := Lib.hid hmem
      have HPL := Lib.hid hpl
      obtain ⟨zx, zu⟩ := z
      simp only [entP, ansV] at hen
      have hBq : Hid (Blk (w5.alloc (.cells #[.int .i64 0, .int .i64 0, .string ⟨#[]⟩, .string ⟨#[]⟩, .string ⟨#[]⟩, .string ⟨#[]⟩, .string ⟨#[]⟩, .string ⟨#[]⟩, .string ⟨#[]⟩, .string ⟨#[]⟩, .string ⟨#[]⟩, .string ⟨#[]⟩, .string ⟨#[]⟩, .string ⟨#[]⟩, .string ⟨#[]⟩, .string ⟨#[]⟩, .string ⟨#[]⟩, .string ⟨#[]⟩] 94)) w5.heap.size 94 (quC noQ)) := Lib.hid (Blk.new w5 _ _)
      have HLT := Lib.hid hlt
      have HGK := Lib.hid hgk
      have HZ := Lib.hid hz
      clear hp hpl hmem hT5 hs5 hC hT hrg hlt hgk hz
      by_cases hob : zx.q.obj = ob
      · have db : (zx.q.obj == ob) = true := by simpa using hob
        go_wp2_with (refine wpList_store_blk rfl (.tmp 6) (.tmp 15) rfl rfl (cs' := quC zx.q) rfl hBq.out (by rw [quC_size]; exact info_qu) (by rw [quC_size, quC_size]) (quC_one _) ?_; intro w6 hq6 hT6 hs6; have x0 : w6.cell? ⟨w5.heap.size, 0, none⟩ = some (.int .i64 zx.q.obj) := (hq6.cell 0).trans rfl)
        have hT56 : Turned (fun k => w5.heap.size ≤ k) w5 w6 := ((Turned.refl _ w5).alloc _).then_ hT6 (fun i hi h => by omega)
        have hC6 := hC5.turned hT56 (by omega) (by omega)
        have hrg6 := hrg5.turned hT56 (by omega) (by omega)
        have hsz6 : w5.heap.size < w6.heap.size := hq6.lt
        have d2 := hC6.cells.2.2
        have hkn : ∀ x ∈ left', x.1 ≠ quV zx.q := fun x hx => ((HMEM.out x).1 hx).2
        obtain ⟨w8, l8, hrun, hrg8, hp8, hT8, hs8⟩ := (hrg6.turned ((Turned.refl (fun _ => False) w6).drew) (fun h => h) (fun h => h)).del key_qu Try.underlying88 (v := ansV zx zu) HPL.out hkn 0
        have hok : qOk zx.q := (hC6.all _ HZ.out).2
        have hC8 : CacheIs w8 p mb room uses (dropY zx.q Yc) := (hC6.kept ((Turned.refl _ w6).drew)).drop HPC.out hrg8.map hT8 hok (.inl ⟨_, hp8⟩)
        have hpc8 : l8.Perm ((dropY zx.q Yc).map entP) := by
          have h1 := (dropY_perm hC6.keys HZ.out rfl).map entP
          rw [List.map_cons] at h1
          exact (hp8.symm.trans (HPC.out.trans h1)).cons_inv
        have hlen8 := dropY_len hC6.keys HZ.out
        have hplt : p < w6.heap.size := by omega
        have hqm : w5.heap.size ≠ mb := by omega
        have hF8 : Forgets Y (dropY zx.q Yc) ob left' := by
          refine ⟨(dropY_sub _ _).trans HF.out.sub, fun z hz hne => dropY_mem.2 ⟨HF.out.stay z hz hne, fun e => hne (by rw [e]; exact hob)⟩, fun z hz he => ?_⟩
          obtain ⟨hz1, hz2⟩ := dropY_mem.1 hz
          refine (HMEM.out _).2 ⟨HF.out.come z hz1 he, fun e => hz2 (quV_inj (hC6.all z hz1).2.1 hok.1 e)⟩
        have hT18 : Turned (fun k => w.heap.size ≤ k ∨ k = mb) w w8 := ((hT15.then_ hT56 (fun i hi h => by omega)).drew).then_ hT8 (fun i hi h => .inr h)
        have hsz8 : w.heap.size < w8.heap.size := by rw [hs8]; show w.heap.size < w6.heap.size; omega
        have HF8 := Lib.hid hF8
        have HPC8 := Lib.hid hpc8
        have HL8 := Lib.hid hlen8
        have n1 : (Yc.length : Int) ≤ (Y.length : Int) := by omega
        clear hBq hT6 hs6 x0 hkn hlen8 hF8 hpc8 hp8 hs8 hC6 hrg6 hT56 hC5 hrg5 HMEM HPL HF HPC
        refine wp_region_held_drew (S := fun W => W.cell? ⟨p, 2, none⟩ = some (.map (some mb)) ∧ Blk W w5.heap.size 94 (quC zx.q)) (by kernel_rfl) ⟨d2, hq6⟩ (fun hHeld => ?_)
        refine held_take 0 21 (v := ?_) ⟨_, rfl, rfl, by rfl, ?_⟩ (by kernel_rfl) (by kernel_rfl) (by kernel_rfl) (fun _ _ _ h => h) hHeld ?_
        rotate_left
        · (intro w hSw; (try dsimp only at hSw); go_simp; try with_reducible rfl)
        simp only [Act.put, List.setIfInBounds_toArray, List.set_cons_zero, List.set_cons_succ]
        refine held_take 1 22 (v := ?_) ⟨_, rfl, rfl, by rfl, ?_⟩ (by kernel_rfl) (by kernel_rfl) (by kernel_rfl) (fun _ _ _ h => h) hHeld ?_
        rotate_left
        · (intro w hSw; (try dsimp only at hSw); go_simp; try with_reducible rfl)
        simp only [Act.put, List.setIfInBounds_toArray, List.set_cons_zero, List.set_cons_succ]
        refine held_take 2 23 (v := ?_) ⟨_, rfl, rfl, by rfl, ?_⟩ (by kernel_rfl) (by kernel_rfl) (by kernel_rfl) (fun _ _ _ h => h) hHeld ?_
        rotate_left
        · (intro w hSw; (try dsimp only at hSw); go_simp; try with_reducible rfl)
        simp only [Act.put, List.setIfInBounds_toArray, List.set_cons_zero, List.set_cons_succ]
        refine held_take 3 24 (v := ?_) ⟨_, rfl, rfl, by rfl, ?_⟩ (by kernel_rfl) (by kernel_rfl) (by kernel_rfl) (fun _ _ _ h => h) hHeld ?_
        rotate_left
        · (intro w hSw; (try dsimp only at hSw); go_simp; try with_reducible rfl)
        simp only [Act.put, List.setIfInBounds_toArray, List.set_cons_zero, List.set_cons_succ]
        refine held_take 4 25 ⟨_, rfl, rfl, by rfl, fun W hW => exec_load_blk (.tmp 6) rfl rfl hW.2 Try.underlying94 rfl (by rw [quC_size]; exact info_qu)⟩ (by kernel_rfl) (by kernel_rfl) (by kernel_rfl) (fun _ _ _ h => h) hHeld ?_
        simp only [Act.put, List.setIfInBounds_toArray, List.set_cons_zero, List.set_cons_succ]
        refine wpAnyH_ready (rs := [5]) (by kernel_rfl) (by simp) ?_
        refine AllReadyH.cons (o := _) rfl (fun K hK => ?_) AllReadyH.nil
        rw [if_pos (by rfl)]
        refine wp_delete_run (.tmp 24) (.tmp 25) 88 94 rfl rfl rfl hrun ?_
        rw [put_none (by rfl)]
        refine hK.out _ _ ⟨(hT8.cell (p := ⟨p, 2, none⟩) hplt hpm).trans d2, Blk.turned (Blk.drew hq6) hT8 hqm⟩ (fun hHeld => ?_)
        clear hK K
        refine wpAnyH_done (by kernel_rfl) ?_ _
        go_wp2_with fail
        go_roundg left'.length
        case measure => have := HLT.out; have := HGK.out; omega
        case rel => exact ⟨left', l8, dropY zx.q Yc, rfl, (by have := HL8.out; congr 1; omega), HF8.out, hrg8, HPC8.out, hC8, hT18, hsz8⟩
      · have db : (zx.q.obj == ob) = false := by simpa using hob
        have HF8 : Hid (Forgets Y Yc ob left') := by
          refine ⟨HF.out.sub, HF.out.stay, fun z hz he => (HMEM.out _).2 ⟨HF.out.come z hz he, fun e => ?_⟩⟩
          have := quV_inj (hC5.all z hz).2.1 (hC5.all _ HZ.out).2.1 e
          exact hob (by rw [← this]; exact he)
        go_wp2_with (refine wpList_store_blk rfl (.tmp 6) (.tmp 15) rfl rfl (cs' := quC zx.q) rfl hBq.out (by rw [quC_size]; exact info_qu) (by rw [quC_size, quC_size]) (quC_one _) ?_; intro w6 hq6 hT6 hs6; have x0 : w6.cell? ⟨w5.heap.size, 0, none⟩ = some (.int .i64 zx.q.obj) := (hq6.cell 0).trans rfl)
        have hT56 : Turned (fun k => w5.heap.size ≤ k) w5 w6 := ((Turned.refl _ w5).alloc _).then_ hT6 (fun i hi h => by omega)
        have hC6 := hC5.turned hT56 (by omega) (by omega)
        have hrg6 := hrg5.turned hT56 (by omega) (by omega)
        have hsz6 : w5.heap.size < w6.heap.size := hq6.lt
        have hT16 := hT15.then_ hT56 (fun i hi h => by omega)
        go_roundg left'.length
        case measure => have := HLT.out; have := HGK.out; omega
        case rel => exact ⟨left', lc, Yc, rfl, rfl, HF8.out, hrg6, HPC.out, hC6, hT16, by omega⟩
end Go.Proofs.Ytnicfiochnkjbaa
