/- CacheDoes: the walk. -/
import Derived.Test.YtnicfiochnkjbaaR7
import Derived.Deep.DeepCutAuto
import Derived.Deep.CutBlock
namespace Go.Proofs.Ytnicfiochnkjbaa
open Go.RowKit

set_option maxRecDepth 100000 in
set_option maxHeartbeats 16000000 in
theorem does_walk (room : Int) (A : Option Addr) (cap : Nat) (l : List CAct) (w : World) (hroom : i64 room) (hl : l.length ≤ maxLen) (hr : ReadsT cactV w w.heap.size 8 A l) (hok : ∀ x ∈ l, cactOk w x) :
    Calls Try.prog 5 #[.int .i64 room, .slice A l.length cap] w fun e w' => e = .returned (.bool true) ∧ Kept w w' := by
  obtain ⟨j0, hj0, hy0, hy1, hy2⟩ := info_parts info_wordz
  have AW := Lib.hid (awake18_any w)
  have HR := Lib.hid hr
  have HOK := Lib.hid hok
  have hl2 := hl
  unfold maxLen at hl2
  clear hr hok hl
  go_enter Try.func5, Try.ntmps5
  go_wp2_with fail
  refine AW.out.mono ?_
  rintro e w1 ⟨rfl, hK1⟩
  clear AW
  have N := Lib.hid (new_p hK1 hroom)
  go_wp2_with fail
  refine N.out.mono ?_
  rintro e w2 h
  rcases h with ⟨h, rfl, rfl⟩ | ⟨⟨hr1, hr2⟩, p, mb, rfl, hC2, _, _, _⟩
  · clear N
    have N2 := Lib.hid (new18_any room w1 hroom)
    go_wp2_with fail
    refine N2.out.mono ?_
    rintro e w3 h2
    rcases h2 with ⟨_, rfl, rfl⟩ | ⟨⟨h3, h4⟩, _⟩
    · clear N2
      go_wp2_with fail
      go_ret
      exact ⟨rfl, hK1⟩
    · exfalso
      omega
  clear N hK1
  have N2 := Lib.hid (new18_any room w2 hroom)
  go_wp2_with fail
  refine N2.out.mono ?_
  rintro e w3 h2
  rcases h2 with ⟨h3, _⟩ | ⟨_, r, rfl, hF3, hK3⟩
  · exfalso
    omega
  have hC3 := hC2.kept hK3
  have hF3' := hF3 w.heap.size (by have := hC2.lt; omega)
  clear N2 hC2 hF3 hK3
  go_wp2_with fail
  go_loopg [7] l.length (fun gk i wr => ∃ (j n : Nat) (X : List Ent) (I : List RItem), j + gk = l.length ∧ i = .int .i64 j ∧ n ≤ j ∧ j ≤ 200 ∧ (X.length : Int) ≤ room ∧ CacheP w wr p mb room n X ∧ RefIs wr w.heap.size r room I ∧ I.map RItem.ent = X)
  case atStart => exact ⟨0, 0, [], [], Nat.zero_add _, rfl, Nat.le_refl _, by omega, by simp; omega, hC3, hF3', rfl⟩
  case round =>
    clear hC3 hF3'
    obtain ⟨j, n, X, I, hj, rfl, hn, hj2, hXl, hC, hF, hIX⟩ := hrel
    have HIX := Lib.hid hIX
    clear hIX
    by_cases hgo : j < l.length ∧ j < 200
    · obtain ⟨hjl, hj200⟩ := hgo
      obtain ⟨b, o, rfl, hbl, hcell⟩ := HR.out j hjl
      obtain ⟨x, hxe⟩ : ∃ x, x = l[j] := ⟨_, rfl⟩
      rw [← hxe] at hcell
      have hok : cactOk w x := by rw [hxe]; exact HOK.out _ (List.getElem_mem hjl)
      have HXE := Lib.hid hxe
      have hrng : wr.rangeAt b (o + j * 8) x.cs.toList := act8_cells (fun i hi => (hC.since.cell (p := ⟨b, o + j * 8 + i, none⟩) hbl (fun h => h)).trans (hcell i hi))
      have hBz : Hid (Blk (wr.alloc (.cells zAct 36)) wr.heap.size 36 zAct) := Lib.hid (Blk.new wr _ _)
      have i0 : (0 : Int) ≤ (j : Int) := by omega
      have i1 : (j : Int) < (l.length : Int) := by omega
      have d200 : decide ((j : Int) < 200) = true := by rw [decide_eq_true_eq]; omega
      clear hxe hcell
      go_wp2_with (first
        | (refine wpList_load_mid rfl 36 (.tmp 45) rfl b (o + j * 8) rfl x.cs.toList _ hrng Try.underlying36 rfl info_cact ?_)
        | (refine wpList_store_blk rfl (.tmp 8) (.tmp 46) rfl rfl (cs' := x.cs) rfl hBz.out info_cact rfl (cact_one x) ?_; intro w3 hX3 hT3 hs3; have e3 : w3.cell? ⟨wr.heap.size, 3, none⟩ = some (.slice x.A x.who.length x.c) := ActAt.c3 hX3))
      have hlt := hC.lt
      have hT03 : Turned (fun k => wr.heap.size ≤ k) wr w3 := ((Turned.refl _ wr).alloc _).then_ hT3 (fun i hi h => by omega)
      have hC3 := hC.beside hT03 (by omega) (by omega) (fun k hk => by omega)
      have hX3' : ActAt w3 wr.heap.size x := hX3
      have hgp : wr.heap.size ≠ p := by omega
      have hgm : wr.heap.size ≠ mb := by omega
      have hgf : ¬ CFoot p mb wr.heap.size := fun h => by rcases h with h | h <;> omega
      have hF3 := hF.beside hT03 (fun k t cs _ hb _ => by have := hb.lt; simp; omega) (fun y hy g cs _ _ hb => by have := hb.lt; simp; omega)
      clear hrng hBz hT3 hs3 hX3 hC hT03 hlt
      refine (large_act hC3.since hok).mono ?_
      rintro e wx ⟨rfl, rfl⟩
      clear e3
      rcases hla : largeR 600 x.who with _ | _
      · have hsm := small_of hla
        have hxlt := hX3'.lt
        clear hla hF
        generalize wr.heap.size = gx at hX3' hxlt hgp hgm hgf ⊢
        have hBk : Hid (Blk (w3.alloc (.cells zKey 25)) w3.heap.size 25 zKey) := Lib.hid (Blk.new w3 _ _)
        go_upto_region 14 with (first
          | (refine wpList_load_mid rfl 25 (.tmp 51) rfl gx 1 rfl x.key.toList _ (ActAt.key hX3') Try.underlying25 rfl info_key ?_)
          | (refine wpList_store_blk rfl (.tmp 9) (.tmp 52) rfl rfl (cs' := x.key) rfl hBk.out info_key rfl (key_one x) ?_; intro w4 hY4 hT4 hs4; clear hs4))
        have hT34 : Turned (fun k => w3.heap.size ≤ k) w3 w4 := ((Turned.refl _ w3).alloc _).then_ hT4 (fun i hi h => by omega)
        have hlt3 := hC3.lt
        have hC4 := hC3.beside hT34 (by omega) (by omega) (fun k hk => by omega)
        have hF4 := hF3.beside hT34 (fun k t cs _ hb _ => by have := hb.lt; simp; omega) (fun y hy g cs _ _ hb => by have := hb.lt; simp; omega)
        have hX4 := hX3'.turned hT34 (by omega)
        have hylt := hY4.lt
        have hyx : gx ≠ w3.heap.size := by omega
        have hyp : w3.heap.size ≠ p := by omega
        have hym : w3.heap.size ≠ mb := by omega
        have hyw : w.heap.size ≤ w3.heap.size := by omega
        clear hBk hT4 hT34 hC3 hF3 hX3' hlt3 hxlt
        generalize w3.heap.size = gy at hY4 hylt hyx hyp hym hyw ⊢
        have hE := own_empty w4 w4.heap.size 51 1 (Nat.le_refl _)
        have hK4 : Kept w (w4.alloc (.cells #[] 51)) := hC4.since.alloc _
        have hrd := hok.reads.kept hK4
        have hsz4 : w4.heap.size ≤ (w4.alloc (.cells #[] 51)).heap.size := by simp
        have hxA : ActAt (w4.alloc (.cells #[] 51)) gx x := hX4.turned ((Turned.refl (fun _ => False) w4).alloc _) (fun h => h)
        have e3 := hxA.c3
        have hwl := hsm.len
        clear hxA hK4
        go_upto_region 15 with (at_builtin; refine wpList_append_reads (V := Value.string) rfl (.tmp 53) (.tmp 56) 23 rfl w4.heap.size 51 j0 _ 1 16 Try.underlying23 hj0 hy0 hy1 hy2 rfl (by omega) (fun _ => rfl) string_one _ _ _ rfl hE _ x.A _ x.c x.who rfl rfl hrd (by unfold maxLen; omega) (by omega) hsz4 ?_; intro v5 w5 O5 hg5; rw [Nat.zero_add, List.nil_append, cellsOf_one (fun _ => rfl)] at O5; obtain ⟨A5, c5, rfl⟩ := own_slice O5; have hT5 : Turned (fun k => w4.heap.size ≤ k) w4 w5 := ((Turned.refl _ w4).alloc _).grown hg5 (fun k h hk => own_base hE h); have hY5 := hY4.turned hT5 (by simp; omega); have k5 := hY5.cell 2; have kf := hY5.frozen 2; clear hg5)
        have hT6 : Turned (fun k => k = gy) w5 (w5.setCell ⟨gy, 2, none⟩ (.slice A5 x.who.length c5)) := (Turned.refl (fun k => k = gy) w5).setCell (p := ⟨gy, 2, none⟩) (fun _ => rfl) _
        have hT46 : Turned (fun k => w4.heap.size ≤ k ∨ k = gy) w4 (w5.setCell ⟨gy, 2, none⟩ (.slice A5 x.who.length c5)) := (hT5.mono (fun _ _ h => .inl h)).then_ hT6 (fun _ _ h => .inr h)
        have hlt4 := hC4.lt
        have hC6 := hC4.beside hT46 (by omega) (by omega) (fun k hk => by omega)
        have hF6 := hF4.beside hT46 (fun k t cs _ hb ht e => by
          rcases e with e | e
          · have := hb.lt; omega
          · subst e; rcases ht with rfl | rfl <;> exact absurd rfl (Blk.ne_ hb hY4 (by decide))) (fun y hy g cs _ _ hb e => by
          rcases e with e | e
          · have := hb.lt; omega
          · subst e; exact absurd rfl (Blk.ne_ hb hY4 (by decide)))
        have hX6 := hX4.turned hT46 (by have := hX4.lt; omega)
        have hY6 : Blk (w5.setCell ⟨gy, 2, none⟩ (.slice A5 x.who.length c5)) gy 25 (keyC x A5 c5) := hY5.set_ 2 _
        have hO6 := own_turned O5 hT6 (fun g hg e => by have := own_base O5 hg; omega)
        have HAV : Hid (∀ y ∈ I, ∀ g, (Value.slice A5 x.who.length c5).ownBlock = some g → y.ownB ≠ some g) := fun y hy g hg e => by
          have h1 := own_base O5 hg
          have h2 := own_lt (hF4.who y hy) e
          omega
        have hB6 : LawB (w5.setCell ⟨gy, 2, none⟩ (.slice A5 x.who.length c5)) gx gy x A5 c5 w.heap.size (x.who.map Value.string) := ⟨hX6, hY6, own_weaken hO6 (by omega)⟩
        clear hT6 hT46 hlt4 hC4 hF4 hX4 hX6 hY6 hO6 hY4 hY5 k5 kf O5 hT5 hE hrd hsz4 e3 hwl hylt
        generalize w5.setCell ⟨gy, 2, none⟩ (.slice A5 x.who.length c5) = w6 at hC6 hF6 hB6 ⊢
        have e0 := hB6.act.c0
        have hIL : I.length = X.length := by have := congrArg List.length HIX.out; rwa [List.length_map] at this
        have hIl : I.length ≤ 100 := by omega
        have HIL := Lib.hid hIL
        have HKY : Hid ((I.map RItem.ent).Pairwise (fun a b => a.q ≠ b.q)) := by rw [HIX.out]; exact Lib.hid hC6.keys
        have HHELD : Hid (∀ W, LawB W gx gy x A5 c5 w.heap.size (x.who.map Value.string) → W.cell? ⟨gx, 1, none⟩ = some (.int .i64 x.ob) ∧ W.cell? ⟨gx, 2, none⟩ = some (.int .i64 x.op) ∧ W.cell? ⟨gx, 3, none⟩ = some (.slice x.A x.who.length x.c) ∧ W.cell? ⟨gx, 4, none⟩ = some (.int .i64 x.ver) ∧ W.cell? ⟨gx, 5, none⟩ = some (.int .i64 x.turn) ∧ W.cell? ⟨gx, 6, none⟩ = some (.int .i64 x.a) ∧ W.cell? ⟨gx, 7, none⟩ = some (.int .i64 x.t) ∧ W.cell? ⟨gy, 0, none⟩ = some (.int .i64 x.ob) ∧ W.cell? ⟨gy, 1, none⟩ = some (.int .i64 x.op) ∧ W.cell? ⟨gy, 2, none⟩ = some (.slice A5 x.who.length c5) ∧ W.cell? ⟨gy, 3, none⟩ = some (.int .i64 x.ver) ∧ W.cell? ⟨gy, 4, none⟩ = some (.int .i64 x.turn)) := fun W h => ⟨h.act.c1, h.act.c2, h.act.c3, h.act.c4, h.act.c5, h.act.c6, h.act.c7, h.key.cell 0, h.key.cell 1, h.key.cell 2, h.key.cell 3, h.key.cell 4⟩
        clear hIL
        go_upto_block 2 with (fail)
        go_cut [61] (fun _s61 wx => ∃ (n' : Nat) (X' : List Ent) (I' : List RItem), n' ≤ j + 1 ∧ (X'.length : Int) ≤ room ∧ CacheP w wx p mb room n' X' ∧ RefIs wx w.heap.size r room I' ∧ I'.map RItem.ent = X' ∧ LawB wx gx gy x A5 c5 w.heap.size (x.who.map Value.string) ∧ ∀ y ∈ I', ∀ g, (Value.slice A5 x.who.length c5).ownBlock = some g → y.ownB ≠ some g)
        case first =>
          have hBd := hB6.kept ((Turned.refl _ w6).drew)
          have hCd := hC6.kept ((Turned.refl _ w6).drew)
          have hFd := hF6.kept ((Turned.refl _ w6).drew)
          by_cases k0 : x.kind = 0
          · as_aux_lemma =>
            have b0 : (x.kind == 0) = true := by simpa using k0
            have CP := put_law hCd hBd hr1 (by omega) (by omega) hok hsm
            have HXL : Hid (((putXE room X x.ent).length : Int) ≤ room) := by
              show ((putXE room X x.ent).length : Int) ≤ room
              unfold putXE
              split
              · exact putX_len hr1 hXl
              · exact hXl
            have CR := fun W (h1 : RefIs W w.heap.size r room I) (h2 : Kept w W) => put_ref h1 HKY.out (by omega) hr1 hok hsm h2
            rw [HIX.out] at CR
            generalize putXE room X x.ent = X1 at CP CR HXL
            generalize putE x.who x.a = pe at CP CR
            have DP := Lib.hid CP
            have DR := Lib.hid CR
            clear CP CR k0
            go_wp2_with fail
            clear e0
            refine wp_region_held_drew (S := fun W => W.cell? ⟨gx, 1, none⟩ = some (.int .i64 x.ob) ∧ W.cell? ⟨gx, 2, none⟩ = some (.int .i64 x.op) ∧ W.cell? ⟨gx, 3, none⟩ = some (.slice x.A x.who.length x.c) ∧ W.cell? ⟨gx, 4, none⟩ = some (.int .i64 x.ver) ∧ W.cell? ⟨gx, 5, none⟩ = some (.int .i64 x.turn) ∧ W.cell? ⟨gx, 6, none⟩ = some (.int .i64 x.a) ∧ W.cell? ⟨gx, 7, none⟩ = some (.int .i64 x.t) ∧ W.cell? ⟨gy, 0, none⟩ = some (.int .i64 x.ob) ∧ W.cell? ⟨gy, 1, none⟩ = some (.int .i64 x.op) ∧ W.cell? ⟨gy, 2, none⟩ = some (.slice A5 x.who.length c5) ∧ W.cell? ⟨gy, 3, none⟩ = some (.int .i64 x.ver) ∧ W.cell? ⟨gy, 4, none⟩ = some (.int .i64 x.turn)) (by kernel_rfl) (HHELD.out _ hBd) (fun hHeld => ?_)
            refine held_take 0 63 (v := ?_) ⟨_, rfl, rfl, by rfl, ?_⟩ (by kernel_rfl) (by kernel_rfl) (by kernel_rfl) (fun _ _ _ h => h) hHeld ?_
            rotate_left
            · (intro w hSw; (try dsimp only at hSw); go_simp; try with_reducible rfl)
            simp only [Act.put, List.setIfInBounds_toArray, List.set_cons_zero, List.set_cons_succ]
            refine held_take 1 64 (v := ?_) ⟨_, rfl, rfl, by rfl, ?_⟩ (by kernel_rfl) (by kernel_rfl) (by kernel_rfl) (fun _ _ _ h => h) hHeld ?_
            rotate_left
            · (intro w hSw; (try dsimp only at hSw); go_simp; try with_reducible rfl)
            simp only [Act.put, List.setIfInBounds_toArray, List.set_cons_zero, List.set_cons_succ]
            refine held_take 2 65 (v := ?_) ⟨_, rfl, rfl, by rfl, ?_⟩ (by kernel_rfl) (by kernel_rfl) (by kernel_rfl) (fun _ _ _ h => h) hHeld ?_
            rotate_left
            · (intro w hSw; (try dsimp only at hSw); go_simp; try with_reducible rfl)
            simp only [Act.put, List.setIfInBounds_toArray, List.set_cons_zero, List.set_cons_succ]
            refine held_take 3 66 (v := ?_) ⟨_, rfl, rfl, by rfl, ?_⟩ (by kernel_rfl) (by kernel_rfl) (by kernel_rfl) (fun _ _ _ h => h) hHeld ?_
            rotate_left
            · (intro w hSw; (try dsimp only at hSw); go_simp; try with_reducible rfl)
            simp only [Act.put, List.setIfInBounds_toArray, List.set_cons_zero, List.set_cons_succ]
            refine held_take 4 67 (v := ?_) ⟨_, rfl, rfl, by rfl, ?_⟩ (by kernel_rfl) (by kernel_rfl) (by kernel_rfl) (fun _ _ _ h => h) hHeld ?_
            rotate_left
            · (intro w hSw; (try dsimp only at hSw); go_simp; try with_reducible rfl)
            simp only [Act.put, List.setIfInBounds_toArray, List.set_cons_zero, List.set_cons_succ]
            refine held_take 5 68 (v := ?_) ⟨_, rfl, rfl, by rfl, ?_⟩ (by kernel_rfl) (by kernel_rfl) (by kernel_rfl) (fun _ _ _ h => h) hHeld ?_
            rotate_left
            · (intro w hSw; (try dsimp only at hSw); go_simp; try with_reducible rfl)
            simp only [Act.put, List.setIfInBounds_toArray, List.set_cons_zero, List.set_cons_succ]
            refine held_take 7 70 (v := ?_) ⟨_, rfl, rfl, by rfl, ?_⟩ (by kernel_rfl) (by kernel_rfl) (by kernel_rfl) (fun _ _ _ h => h) hHeld ?_
            rotate_left
            · (intro w hSw; (try dsimp only at hSw); go_simp; try with_reducible rfl)
            simp only [Act.put, List.setIfInBounds_toArray, List.set_cons_zero, List.set_cons_succ]
            refine held_take 8 71 (v := ?_) ⟨_, rfl, rfl, by rfl, ?_⟩ (by kernel_rfl) (by kernel_rfl) (by kernel_rfl) (fun _ _ _ h => h) hHeld ?_
            rotate_left
            · (intro w hSw; (try dsimp only at hSw); go_simp; try with_reducible rfl)
            simp only [Act.put, List.setIfInBounds_toArray, List.set_cons_zero, List.set_cons_succ]
            refine held_take 9 72 (v := ?_) ⟨_, rfl, rfl, by rfl, ?_⟩ (by kernel_rfl) (by kernel_rfl) (by kernel_rfl) (fun _ _ _ h => h) hHeld ?_
            rotate_left
            · (intro w hSw; (try dsimp only at hSw); go_simp; try with_reducible rfl)
            simp only [Act.put, List.setIfInBounds_toArray, List.set_cons_zero, List.set_cons_succ]
            refine held_take 11 74 (v := ?_) ⟨_, rfl, rfl, by rfl, ?_⟩ (by kernel_rfl) (by kernel_rfl) (by kernel_rfl) (fun _ _ _ h => h) hHeld ?_
            rotate_left
            · (intro w hSw; (try dsimp only at hSw); go_simp; try with_reducible rfl)
            simp only [Act.put, List.setIfInBounds_toArray, List.set_cons_zero, List.set_cons_succ]
            refine held_take 12 75 (v := ?_) ⟨_, rfl, rfl, by rfl, ?_⟩ (by kernel_rfl) (by kernel_rfl) (by kernel_rfl) (fun _ _ _ h => h) hHeld ?_
            rotate_left
            · (intro w hSw; (try dsimp only at hSw); go_simp; try with_reducible rfl)
            simp only [Act.put, List.setIfInBounds_toArray, List.set_cons_zero, List.set_cons_succ]
            refine held_take 13 76 (v := ?_) ⟨_, rfl, rfl, by rfl, ?_⟩ (by kernel_rfl) (by kernel_rfl) (by kernel_rfl) (fun _ _ _ h => h) hHeld ?_
            rotate_left
            · (intro w hSw; (try dsimp only at hSw); go_simp; try with_reducible rfl)
            simp only [Act.put, List.setIfInBounds_toArray, List.set_cons_zero, List.set_cons_succ]
            refine held_take 14 77 (v := ?_) ⟨_, rfl, rfl, by rfl, ?_⟩ (by kernel_rfl) (by kernel_rfl) (by kernel_rfl) (fun _ _ _ h => h) hHeld ?_
            rotate_left
            · (intro w hSw; (try dsimp only at hSw); go_simp; try with_reducible rfl)
            simp only [Act.put, List.setIfInBounds_toArray, List.set_cons_zero, List.set_cons_succ]
            refine wpAnyH_ready (rs := [6]) (by kernel_rfl) (by simp) ?_
            refine AllReadyH.cons (o := _) rfl (fun K hK => ?_) AllReadyH.nil
            go_simp
            go_at_call 16
            refine (DP.out).mono ?_
            rintro e w7 ⟨rfl, hC7, hT7⟩
            go_wp2_with fail
            have hB7 := hBd.cfoot hCd hT7
            have hF7 := hFd.cfoot hCd hT7
            clear DP hT7
            refine hK.out _ _ (HHELD.out _ hB7) (fun hHeld => ?_)
            clear hK K
            refine wpAnyH_ready (rs := [10]) (by kernel_rfl) (by simp) ?_
            refine AllReadyH.cons (o := _) rfl (fun K hK => ?_) AllReadyH.nil
            go_simp
            go_at_call 22
            refine (own_any _ _ _ _ _ _ _ _).mono ?_
            rintro e w8 ⟨rfl, hq8⟩
            go_wp2_with fail
            have hB8 := hB7.kept hq8
            have hC8 := hC7.kept hq8
            have hF8 := hF7.kept hq8
            refine hK.out _ _ (HHELD.out _ hB8) (fun hHeld => ?_)
            clear hK K
            refine wpAnyH_ready (rs := [15]) (by kernel_rfl) (by simp) ?_
            refine AllReadyH.cons (o := _) rfl (fun K hK => ?_) AllReadyH.nil
            go_simp
            go_at_call 21
            refine (DR.out _ hF8 hC8.since).mono ?_
            rintro e w9 ⟨rfl, I', hF9, hM9, hT9, hfr9⟩
            go_wp2_with fail
            have hB9 := hB8.rfoot hT9
            have hC9 := hC8.rfoot hT9
            have HFR9 := Lib.hid hfr9
            have HM9 := Lib.hid hM9
            clear DR hT9 hfr9 hM9
            refine hK.out _ _ (HHELD.out _ hB9) (fun hHeld => ?_)
            clear hK K
            refine held_take 16 79 (v := ?_) ⟨_, rfl, rfl, by rfl, ?_⟩ (by kernel_rfl) (by kernel_rfl) (by kernel_rfl) (fun _ _ _ h => h) hHeld ?_
            rotate_left
            · (intro w hSw; (try dsimp only at hSw); go_simp; try with_reducible rfl)
            simp only [Act.put, List.setIfInBounds_toArray, List.set_cons_zero, List.set_cons_succ]
            refine wpAnyH_done (by kernel_rfl) ?_ _
            go_wp2_with fail
            go_meet
            refine ⟨n + 1, X1, I', by omega, HXL.out, hC9, hF9, HM9.out, hB9, fun y hy g hg e => ?_⟩
            rcases HFR9.out y hy with h | h
            · exact HAV.out y h g hg e
            · have h1 := h g e
              have h2 := own_lt hB8.row hg
              omega
          · have b0 : (x.kind == 0) = false := by simpa using k0
            by_cases k1 : x.kind = 1
            · as_aux_lemma =>
              have b1 : (x.kind == 1) = true := by simpa using k1
              have CG := get_law hC6 hB6 (by omega) hok hsm x.t
              have HXL : Hid (((getX x.q x.ver x.turn x.t X).length : Int) ≤ room) := by have := getX_len (q := x.q) (ver := x.ver) (turn := x.turn) (t := x.t) hC6.keys; show ((getX x.q x.ver x.turn x.t X).length : Int) ≤ room; omega
              have CR := fun W (h1 : RefIs W w.heap.size r room I) (h2 : Kept w W) => get_ref h1 HKY.out (by omega) hok hsm h2
              rw [HIX.out] at CR
              generalize getX x.q x.ver x.turn x.t X = X1 at CG CR HXL
              generalize toldR (hitX x.q x.ver x.turn x.t X) = tv at CG CR
              generalize (hitX x.q x.ver x.turn x.t X).isSome = bv at CG CR
              have DG := Lib.hid CG
              have DR := Lib.hid CR
              clear CG CR k0 k1
              have tt : (tv != tv) = false := by simp
              have tb : (bv != bv) = false := by simp
              have y0 : w6.cell? ⟨gy, 0, none⟩ = some (.int .i64 x.ob) := hB6.key.cell 0
              have y1 : w6.cell? ⟨gy, 1, none⟩ = some (.int .i64 x.op) := hB6.key.cell 1
              have y2 : w6.cell? ⟨gy, 2, none⟩ = some (.slice A5 x.who.length c5) := hB6.key.cell 2
              have y3 : w6.cell? ⟨gy, 3, none⟩ = some (.int .i64 x.ver) := hB6.key.cell 3
              have y4 : w6.cell? ⟨gy, 4, none⟩ = some (.int .i64 x.turn) := hB6.key.cell 4
              have e7 := hB6.act.c7
              go_wp2_with fail
              refine DG.out.mono ?_
              rintro e w7 ⟨rfl, hC7, hT7⟩
              have hB7 := (hB6.cfoot hC6 hT7).kept ((Turned.refl _ w7).drew)
              have hF7 := (hF6.cfoot hC6 hT7).kept ((Turned.refl _ w7).drew)
              have hC7d := hC7.kept ((Turned.refl _ w7).drew)
              clear DG y0 y1 y2 y3 y4 e7 hT7 e0 hC7
              have hC7 := hC7d
              clear hC7d
              go_wp2_with fail
              refine wp_region_held_drew (S := fun W => W.cell? ⟨gx, 1, none⟩ = some (.int .i64 x.ob) ∧ W.cell? ⟨gx, 2, none⟩ = some (.int .i64 x.op) ∧ W.cell? ⟨gx, 3, none⟩ = some (.slice x.A x.who.length x.c) ∧ W.cell? ⟨gx, 4, none⟩ = some (.int .i64 x.ver) ∧ W.cell? ⟨gx, 5, none⟩ = some (.int .i64 x.turn) ∧ W.cell? ⟨gx, 6, none⟩ = some (.int .i64 x.a) ∧ W.cell? ⟨gx, 7, none⟩ = some (.int .i64 x.t) ∧ W.cell? ⟨gy, 0, none⟩ = some (.int .i64 x.ob) ∧ W.cell? ⟨gy, 1, none⟩ = some (.int .i64 x.op) ∧ W.cell? ⟨gy, 2, none⟩ = some (.slice A5 x.who.length c5) ∧ W.cell? ⟨gy, 3, none⟩ = some (.int .i64 x.ver) ∧ W.cell? ⟨gy, 4, none⟩ = some (.int .i64 x.turn)) (by kernel_rfl) (HHELD.out _ hB7) (fun hHeld => ?_)
              refine held_take 0 91 (v := ?_) ⟨_, rfl, rfl, by rfl, ?_⟩ (by kernel_rfl) (by kernel_rfl) (by kernel_rfl) (fun _ _ _ h => h) hHeld ?_
              rotate_left
              · (intro w hSw; (try dsimp only at hSw); go_simp; try with_reducible rfl)
              simp only [Act.put, List.setIfInBounds_toArray, List.set_cons_zero, List.set_cons_succ]
              refine held_take 1 92 (v := ?_) ⟨_, rfl, rfl, by rfl, ?_⟩ (by kernel_rfl) (by kernel_rfl) (by kernel_rfl) (fun _ _ _ h => h) hHeld ?_
              rotate_left
              · (intro w hSw; (try dsimp only at hSw); go_simp; try with_reducible rfl)
              simp only [Act.put, List.setIfInBounds_toArray, List.set_cons_zero, List.set_cons_succ]
              refine held_take 2 93 (v := ?_) ⟨_, rfl, rfl, by rfl, ?_⟩ (by kernel_rfl) (by kernel_rfl) (by kernel_rfl) (fun _ _ _ h => h) hHeld ?_
              rotate_left
              · (intro w hSw; (try dsimp only at hSw); go_simp; try with_reducible rfl)
              simp only [Act.put, List.setIfInBounds_toArray, List.set_cons_zero, List.set_cons_succ]
              refine held_take 4 95 (v := ?_) ⟨_, rfl, rfl, by rfl, ?_⟩ (by kernel_rfl) (by kernel_rfl) (by kernel_rfl) (fun _ _ _ h => h) hHeld ?_
              rotate_left
              · (intro w hSw; (try dsimp only at hSw); go_simp; try with_reducible rfl)
              simp only [Act.put, List.setIfInBounds_toArray, List.set_cons_zero, List.set_cons_succ]
              refine held_take 5 96 (v := ?_) ⟨_, rfl, rfl, by rfl, ?_⟩ (by kernel_rfl) (by kernel_rfl) (by kernel_rfl) (fun _ _ _ h => h) hHeld ?_
              rotate_left
              · (intro w hSw; (try dsimp only at hSw); go_simp; try with_reducible rfl)
              simp only [Act.put, List.setIfInBounds_toArray, List.set_cons_zero, List.set_cons_succ]
              refine wpAnyH_ready (rs := [3]) (by kernel_rfl) (by simp) ?_
              refine AllReadyH.cons (o := _) rfl (fun K hK => ?_) AllReadyH.nil
              go_simp
              go_at_call 22
              refine (own_any _ _ _ _ _ _ _ _).mono ?_
              rintro e w8 ⟨rfl, hq8⟩
              go_wp2_with fail
              have hB8 := hB7.kept hq8
              have hC8 := hC7.kept hq8
              have hF8 := hF7.kept hq8
              refine hK.out _ _ (HHELD.out _ hB8) (fun hHeld => ?_)
              clear hK K
              refine wpAnyH_ready (rs := [6]) (by kernel_rfl) (by simp) ?_
              refine AllReadyH.cons (o := _) rfl (fun K hK => ?_) AllReadyH.nil
              go_simp
              go_at_call 23
              refine (DR.out _ hF8 hC8.since).mono ?_
              rintro e w9 ⟨rfl, I', hF9, hM9, hT9, hfr9⟩
              go_wp2_with fail
              have hB9 := hB8.rfoot hT9
              have hC9 := hC8.rfoot hT9
              have HFR9 := Lib.hid hfr9
              have HM9 := Lib.hid hM9
              clear DR hT9 hfr9 hM9
              refine hK.out _ _ (HHELD.out _ hB9) (fun hHeld => ?_)
              clear hK K
              refine held_take 7 90 (v := ?_) ⟨_, rfl, rfl, by rfl, ?_⟩ (by kernel_rfl) (by kernel_rfl) (by kernel_rfl) (fun _ _ _ h => h) hHeld ?_
              rotate_left
              · (intro w hSw; (try dsimp only at hSw); go_simp; try with_reducible rfl)
              simp only [Act.put, List.setIfInBounds_toArray, List.set_cons_zero, List.set_cons_succ]
              refine held_take 8 98 (v := ?_) ⟨_, rfl, rfl, by rfl, ?_⟩ (by kernel_rfl) (by kernel_rfl) (by kernel_rfl) (fun _ _ _ h => h) hHeld ?_
              rotate_left
              · (intro w hSw; (try dsimp only at hSw); go_simp; try with_reducible rfl)
              simp only [Act.put, List.setIfInBounds_toArray, List.set_cons_zero, List.set_cons_succ]
              refine held_take 9 99 (v := ?_) ⟨_, rfl, rfl, by rfl, ?_⟩ (by kernel_rfl) (by kernel_rfl) (by kernel_rfl) (fun _ _ _ h => h) hHeld ?_
              rotate_left
              · (intro w hSw; (try dsimp only at hSw); go_simp; try with_reducible rfl)
              simp only [Act.put, List.setIfInBounds_toArray, List.set_cons_zero, List.set_cons_succ]
              refine held_take 10 12 (v := ?_) ⟨_, rfl, rfl, by rfl, ?_⟩ (by kernel_rfl) (by kernel_rfl) (by kernel_rfl) (fun _ _ _ h => h) hHeld ?_
              rotate_left
              · (intro w hSw; (try dsimp only at hSw); go_simp; try with_reducible rfl)
              simp only [Act.put, List.setIfInBounds_toArray, List.set_cons_zero, List.set_cons_succ]
              refine held_take 11 13 (v := ?_) ⟨_, rfl, rfl, by rfl, ?_⟩ (by kernel_rfl) (by kernel_rfl) (by kernel_rfl) (fun _ _ _ h => h) hHeld ?_
              rotate_left
              · (intro w hSw; (try dsimp only at hSw); go_simp; try with_reducible rfl)
              simp only [Act.put, List.setIfInBounds_toArray, List.set_cons_zero, List.set_cons_succ]
              refine wpAnyH_done (by kernel_rfl) ?_ _
              go_wp2_with fail
              go_meet
              exact ⟨n + 1, X1, I', by omega, HXL.out, hC9, hF9, HM9.out, hB9, fun y hy => HAV.out y (HFR9.out y hy)⟩
            · have b1 : (x.kind == 1) = false := by simpa using k1
              by_cases k2 : x.kind = 2
              · as_aux_lemma =>
                have b2 : (x.kind == 2) = true := by simpa using k2
                have CG := forget_p (ob := x.ob) hCd (by omega)
                have HXL : Hid (((forgetX x.ob X).length : Int) ≤ room) := by have := forgetX_len x.ob X; show ((forgetX x.ob X).length : Int) ≤ room; omega
                have CR := fun W (h1 : RefIs W w.heap.size r room I) => forget18_any h1 (by omega) x.ob
                unfold ForPost18 at CR
                rw [HIX.out, HIL.out] at CR
                generalize forgetX x.ob X = X1 at CG CR HXL
                generalize ((X.length : Int) - (X1.length : Int)) = dv at CG CR
                have DP := Lib.hid CG
                have DR := Lib.hid CR
                clear CG CR k0 k1 k2
                go_wp2_with fail
                clear e0
                refine wp_region_held_drew (S := fun W => W.cell? ⟨gx, 1, none⟩ = some (.int .i64 x.ob) ∧ W.cell? ⟨gx, 2, none⟩ = some (.int .i64 x.op) ∧ W.cell? ⟨gx, 3, none⟩ = some (.slice x.A x.who.length x.c) ∧ W.cell? ⟨gx, 4, none⟩ = some (.int .i64 x.ver) ∧ W.cell? ⟨gx, 5, none⟩ = some (.int .i64 x.turn) ∧ W.cell? ⟨gx, 6, none⟩ = some (.int .i64 x.a) ∧ W.cell? ⟨gx, 7, none⟩ = some (.int .i64 x.t) ∧ W.cell? ⟨gy, 0, none⟩ = some (.int .i64 x.ob) ∧ W.cell? ⟨gy, 1, none⟩ = some (.int .i64 x.op) ∧ W.cell? ⟨gy, 2, none⟩ = some (.slice A5 x.who.length c5) ∧ W.cell? ⟨gy, 3, none⟩ = some (.int .i64 x.ver) ∧ W.cell? ⟨gy, 4, none⟩ = some (.int .i64 x.turn)) (by kernel_rfl) (HHELD.out _ hBd) (fun hHeld => ?_)
                refine held_take 0 110 (v := ?_) ⟨_, rfl, rfl, by rfl, ?_⟩ (by kernel_rfl) (by kernel_rfl) (by kernel_rfl) (fun _ _ _ h => h) hHeld ?_
                rotate_left
                · (intro w hSw; (try dsimp only at hSw); go_simp; try with_reducible rfl)
                simp only [Act.put, List.setIfInBounds_toArray, List.set_cons_zero, List.set_cons_succ]
                refine held_take 1 111 (v := ?_) ⟨_, rfl, rfl, by rfl, ?_⟩ (by kernel_rfl) (by kernel_rfl) (by kernel_rfl) (fun _ _ _ h => h) hHeld ?_
                rotate_left
                · (intro w hSw; (try dsimp only at hSw); go_simp; try with_reducible rfl)
                simp only [Act.put, List.setIfInBounds_toArray, List.set_cons_zero, List.set_cons_succ]
                refine held_take 2 112 (v := ?_) ⟨_, rfl, rfl, by rfl, ?_⟩ (by kernel_rfl) (by kernel_rfl) (by kernel_rfl) (fun _ _ _ h => h) hHeld ?_
                rotate_left
                · (intro w hSw; (try dsimp only at hSw); go_simp; try with_reducible rfl)
                simp only [Act.put, List.setIfInBounds_toArray, List.set_cons_zero, List.set_cons_succ]
                refine held_take 4 114 (v := ?_) ⟨_, rfl, rfl, by rfl, ?_⟩ (by kernel_rfl) (by kernel_rfl) (by kernel_rfl) (fun _ _ _ h => h) hHeld ?_
                rotate_left
                · (intro w hSw; (try dsimp only at hSw); go_simp; try with_reducible rfl)
                simp only [Act.put, List.setIfInBounds_toArray, List.set_cons_zero, List.set_cons_succ]
                refine held_take 5 115 (v := ?_) ⟨_, rfl, rfl, by rfl, ?_⟩ (by kernel_rfl) (by kernel_rfl) (by kernel_rfl) (fun _ _ _ h => h) hHeld ?_
                rotate_left
                · (intro w hSw; (try dsimp only at hSw); go_simp; try with_reducible rfl)
                simp only [Act.put, List.setIfInBounds_toArray, List.set_cons_zero, List.set_cons_succ]
                refine held_take 6 116 (v := ?_) ⟨_, rfl, rfl, by rfl, ?_⟩ (by kernel_rfl) (by kernel_rfl) (by kernel_rfl) (fun _ _ _ h => h) hHeld ?_
                rotate_left
                · (intro w hSw; (try dsimp only at hSw); go_simp; try with_reducible rfl)
                simp only [Act.put, List.setIfInBounds_toArray, List.set_cons_zero, List.set_cons_succ]
                refine wpAnyH_ready (rs := [3]) (by kernel_rfl) (by simp) ?_
                refine AllReadyH.cons (o := _) rfl (fun K hK => ?_) AllReadyH.nil
                go_simp
                go_at_call 19
                refine (DP.out).mono ?_
                rintro e w7 ⟨rfl, hC7, hT7⟩
                go_wp2_with fail
                have hB7 := hBd.cfoot hCd hT7
                have hF7 := hFd.cfoot hCd hT7
                clear DP hT7
                refine hK.out _ _ (HHELD.out _ hB7) (fun hHeld => ?_)
                clear hK K
                refine wpAnyH_ready (rs := [7]) (by kernel_rfl) (by simp) ?_
                refine AllReadyH.cons (o := _) rfl (fun K hK => ?_) AllReadyH.nil
                go_simp
                go_at_call 24
                refine (DR.out _ hF7).mono ?_
                rintro e w9 ⟨rfl, I', hF9, hM9, hT9, hfr9⟩
                go_wp2_with fail
                have hB9 := hB7.rfoot hT9
                have hC9 := hC7.rfoot hT9
                have HFR9 := Lib.hid hfr9
                have HM9 := Lib.hid hM9
                clear DR hT9 hfr9 hM9
                refine hK.out _ _ (HHELD.out _ hB9) (fun hHeld => ?_)
                clear hK K
                refine held_take 8 118 (v := ?_) ⟨_, rfl, rfl, by rfl, ?_⟩ (by kernel_rfl) (by kernel_rfl) (by kernel_rfl) (fun _ _ _ h => h) hHeld ?_
                rotate_left
                · (intro w hSw; (try dsimp only at hSw); go_simp; try with_reducible rfl)
                simp only [Act.put, List.setIfInBounds_toArray, List.set_cons_zero, List.set_cons_succ]
                refine wpAnyH_done (by kernel_rfl) ?_ _
                go_wp2_with fail
                go_meet
                exact ⟨n, X1, I', by omega, HXL.out, hC9, hF9, HM9.out, hB9, fun y hy => HAV.out y (HFR9.out y hy)⟩
              · have b2 : (x.kind == 2) = false := by simpa using k2
                by_cases k3 : x.kind = 3
                · have b3 : (x.kind == 3) = true := by simpa using k3
                  have DC := Lib.hid (clear_p hC6)
                  clear k0 k1 k2 k3
                  go_wp2_with fail
                  refine DC.out.mono ?_
                  rintro e w7 ⟨rfl, hC7, hT7⟩
                  have hB7 := hB6.cfoot hC6 hT7
                  have hF7 := hF6.cfoot hC6 hT7
                  obtain ⟨v7, hb7, _⟩ := hF7.row
                  have g0 : w7.cell? ⟨r, 0, none⟩ = some v7 := hb7.cell 0
                  have g1 := hb7.frozen 0
                  obtain ⟨hF8, hT8⟩ := hF7.cleared
                  have hB8 := hB7.rfoot hT8
                  have hC8 := hC7.rfoot hT8
                  clear DC hT7 e0 hT8
                  go_wp2_with fail
                  go_meet
                  exact ⟨n, [], [], by omega, by simp; omega, hC8, hF8, rfl, hB8, fun y hy => (by cases hy)⟩
                · have b3 : (x.kind == 3) = false := by simpa using k3
                  clear k0 k1 k2 k3
                  go_wp2_with fail
                  go_meet
                  exact ⟨n, X, I, by omega, hXl, hC6, hF6, HIX.out, hB6, HAV.out⟩
        case rest =>
          obtain ⟨n', X', I', hn', hX', hC9, hF9, hIX2, hB9, hav⟩ := hcut
          have HIX2 := Lib.hid hIX2
          have HAV2 := Lib.hid hav
          have HIL2 : Hid ((X'.length : Int) = (I'.length : Int)) := by show (X'.length : Int) = (I'.length : Int); have := congrArg List.length HIX2.out; rw [List.length_map] at this; omega
          have dn : ((X'.length : Int) != (I'.length : Int)) = false := by rw [HIL2.out]; simp
          clear hIX2 hav e0 hB6 hC6 hF6 HHELD HKY HIL HAV hIl
          have y2 : wc.cell? ⟨gy, 2, none⟩ = some (.slice A5 x.who.length c5) := hB9.key.cell 2
          obtain ⟨gkO, hgkO⟩ : ∃ g : Nat, g = gk := ⟨_, rfl⟩
          have HGKO : Hid (j + gkO = l.length) := by rw [hgkO]; exact Lib.hid hj
          have hwl := hsm.len
          have HG2 := Lib.hid hgkO
          clear hgkO hj
          go_wp2_with fail
          clear y2
          go_loopg [129] x.who.length (fun g2 v wr2 => ∃ (q : Nat) (L : List Value), q + g2 = x.who.length ∧ v = .int .i64 q ∧ CacheP w wr2 p mb room n' X' ∧ RefIs wr2 w.heap.size r room I' ∧ LawB wr2 gx gy x A5 c5 w.heap.size L)
          case atStart => exact ⟨0, _, Nat.zero_add _, rfl, hC9, hF9, hB9⟩
          case round =>
            clear hC9 hF9 hB9
            obtain ⟨q, L, hq, rfl, hC9, hF9, hB9⟩ := hrel
            by_cases hql : q < x.who.length
            · have y2 : wr.cell? ⟨gy, 2, none⟩ = some (.slice A5 x.who.length c5) := hB9.key.cell 2
              obtain ⟨g, rfl, hgl, hcell⟩ := own_at hB9.row hql
              have hob : (Value.slice (some ⟨g, 0, none⟩) x.who.length c5).ownBlock = some g := by simp [Value.ownBlock]
              obtain ⟨hgb, cs, hgB⟩ := own_blk hB9.row hob
              have hc0 := hcell 0 (by omega)
              have hLq : q < L.length := by have := hB9.row.1; omega
              rw [Nat.mul_one, Nat.add_zero, List.getElem?_eq_getElem hLq] at hc0
              have hfz := hgB.frozen q
              have q0 : (0 : Int) ≤ (q : Int) := by omega
              have q1 : (q : Int) < (x.who.length : Int) := by omega
              have hT : Turned (fun k => k = g) wr (wr.setCell ⟨g, q, none⟩ (.string ⟨#[63]⟩)) := (Turned.refl (fun k => k = g) wr).setCell (p := ⟨g, q, none⟩) (fun _ => rfl) _
              have hCn := hC9.beside hT (fun e => hC9.foot_not hgB (by decide) (.inl e.symm)) (fun e => hC9.foot_not hgB (by decide) (.inr e.symm)) (fun k hk => by rw [hk]; exact hgb)
              have hFn := hF9.beside hT (fun k t cs' _ hb ht e => by subst e; rcases ht with rfl | rfl <;> exact absurd rfl (Blk.ne_ hb hgB (by decide))) (fun y hy g' cs' hg' _ _ e => by subst e; exact HAV2.out y hy _ hob hg')
              have hBn : LawB (wr.setCell ⟨g, q, none⟩ (.string ⟨#[63]⟩)) gx gy x (some ⟨g, 0, none⟩) c5 w.heap.size (L.set q (.string ⟨#[63]⟩)) := ⟨hB9.act.turned hT (fun e => by subst e; exact absurd rfl (Blk.ne_ hB9.act hgB (by decide))), hB9.key.turned hT (fun e => by subst e; exact absurd rfl (Blk.ne_ hB9.key hgB (by decide))), own_over hB9.row⟩
              clear hcell hC9 hF9 hB9 hgB hT
              go_wp2_with fail
              go_roundg (gk - 1)
              case measure => omega
              case rel => exact ⟨q + 1, _, by omega, by go_num, hCn, hFn, hBn⟩
            · have q1 : ¬ (q : Int) < (x.who.length : Int) := by omega
              go_wp2_with fail
              obtain ⟨v9, hb9, ho9⟩ := hF9.row
              obtain ⟨A9, c9, rfl⟩ := own_slice ho9
              refine wp_region_held_drew (S := fun W => CacheP w W p mb room n' X' ∧ W.cell? ⟨r, 0, none⟩ = some (.slice A9 I'.length c9)) (by kernel_rfl) ⟨hC9.kept ((Turned.refl _ wr).drew), hb9.cell 0⟩ (fun hHeld => ?_)
              refine held_take 0 137 (v := ?_) ⟨_, rfl, rfl, by rfl, ?_⟩ (by kernel_rfl) (by kernel_rfl) (by kernel_rfl) (fun _ _ _ h => h) hHeld ?_
              rotate_left
              · (intro w hSw; (try dsimp only at hSw); go_simp; try with_reducible rfl)
              simp only [Act.put, List.setIfInBounds_toArray, List.set_cons_zero, List.set_cons_succ]
              refine held_take 2 139 (v := ?_) ⟨_, rfl, rfl, by rfl, ?_⟩ (by kernel_rfl) (by kernel_rfl) (by kernel_rfl) (fun _ _ _ h => h) hHeld ?_
              rotate_left
              · (intro w hSw; (try dsimp only at hSw); go_simp; try with_reducible rfl)
              simp only [Act.put, List.setIfInBounds_toArray, List.set_cons_zero, List.set_cons_succ]
              refine held_take 3 140 (v := ?_) ⟨_, rfl, rfl, by rfl, ?_⟩ (by kernel_rfl) (by kernel_rfl) (by kernel_rfl) (fun _ _ _ h => h) hHeld ?_
              rotate_left
              · (intro w hSw; (try dsimp only at hSw); go_simp; try with_reducible rfl)
              simp only [Act.put, List.setIfInBounds_toArray, List.set_cons_zero, List.set_cons_succ]
              refine held_take 4 141 (v := ?_) ⟨_, rfl, rfl, by rfl, ?_⟩ (by kernel_rfl) (by kernel_rfl) (by kernel_rfl) (fun _ _ _ h => h) hHeld ?_
              rotate_left
              · (intro w hSw; (try dsimp only at hSw); go_simp; try with_reducible rfl)
              simp only [Act.put, List.setIfInBounds_toArray, List.set_cons_zero, List.set_cons_succ]
              refine held_take 5 142 (v := ?_) ⟨_, rfl, rfl, by rfl, ?_⟩ (by kernel_rfl) (by kernel_rfl) (by kernel_rfl) (fun _ _ _ h => h) hHeld ?_
              rotate_left
              · (intro w hSw; (try dsimp only at hSw); go_simp; try with_reducible rfl)
              simp only [Act.put, List.setIfInBounds_toArray, List.set_cons_zero, List.set_cons_succ]
              refine held_take 6 143 (v := ?_) ⟨_, rfl, rfl, by rfl, ?_⟩ (by kernel_rfl) (by kernel_rfl) (by kernel_rfl) (fun _ _ _ h => h) hHeld ?_
              rotate_left
              · (intro w hSw; (try dsimp only at hSw); go_simp; try with_reducible rfl)
              simp only [Act.put, List.setIfInBounds_toArray, List.set_cons_zero, List.set_cons_succ]
              refine wpAnyH_ready (rs := [1]) (by kernel_rfl) (by simp) ?_
              refine AllReadyH.cons (o := _) rfl (fun K hK => ?_) AllReadyH.nil
              go_simp
              go_at_call 17
              refine (len_p (hC9.kept ((Turned.refl _ wr).drew))).mono ?_
              rintro e wx ⟨rfl, rfl⟩
              go_wp2_with fail
              refine hK.out _ _ (⟨hC9.kept ((Turned.refl _ wr).drew), hb9.cell 0⟩) (fun hHeld => ?_)
              clear hK K
              refine held_take 7 144 (v := ?_) ⟨_, rfl, rfl, by rfl, ?_⟩ (by kernel_rfl) (by kernel_rfl) (by kernel_rfl) (fun _ _ _ h => h) hHeld ?_
              rotate_left
              · (intro w hSw; (try dsimp only at hSw); go_simp; try with_reducible rfl)
              simp only [Act.put, List.setIfInBounds_toArray, List.set_cons_zero, List.set_cons_succ]
              refine wpAnyH_done (by kernel_rfl) ?_ _
              have hC10 := hC9.kept ((Turned.refl _ wr).drew)
              have hF10 := hF9.kept ((Turned.refl _ wr).drew)
              go_wp2_with fail
              go_roundg (gkO - 1)
              case measure => have := HGKO.out; have := HG2.out; omega
              case rel => exact ⟨j + 1, n', X', I', by have := HGKO.out; omega, by go_num, by omega, by omega, hX', hC10, hF10, HIX2.out⟩
      · go_wp2_with fail
        go_ret
        exact ⟨rfl, hC3.since⟩
    · have hend : l.length ≤ j ∨ (j < l.length ∧ decide ((j : Int) < 200) = false) := by
        by_cases h : j < l.length
        · refine .inr ⟨h, ?_⟩
          rw [decide_eq_false_iff_not]
          omega
        · exact .inl (by omega)
      clear hgo
      rcases hend with hend | ⟨hend, hend2⟩
      all_goals
        go_wp2_with fail
        go_ret
        exact ⟨rfl, hC.since⟩
end Go.Proofs.Ytnicfiochnkjbaa
