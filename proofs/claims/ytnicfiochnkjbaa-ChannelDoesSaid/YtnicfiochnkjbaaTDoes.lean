/- ChannelDoes: the walk. -/
import Derived.Test.YtnicfiochnkjbaaU6
import Derived.Deep.DeepCutAuto
import Derived.Deep.CutBlock
import Derived.BigQuiet
namespace Go.Proofs.Ytnicfiochnkjbaa
open Go.RowKit
set_option maxRecDepth 100000 in
set_option maxHeartbeats 16000000 in
theorem tdoes_walk (room : Int) (A : Option Addr) (cap : Nat) (l : List TAct) (c : Int) (w : World) (hroom : i64 room) (hl : l.length ≤ maxLen) (hr : ReadsT tactV w w.heap.size 4 A l) (hok : ∀ x ∈ l, tactOk w x) (hcu : u16 c) :
    Calls Try.prog 8 #[.int .i64 room, .slice A l.length cap, .int .u16 c] w fun e w' => e = .returned (.bool true) ∧ Kept w w' := by
  obtain ⟨j0, hj0, hy0, hy1, hy2⟩ := info_parts info_wordz
  have AW := Lib.hid (awake19_any w)
  have HR := Lib.hid hr
  have HOK := Lib.hid hok
  have hl2 := hl
  unfold maxLen at hl2
  have HCU := Lib.hid hcu
  clear hr hok hl hcu
  go_enter Try.func8, Try.ntmps8
  go_wp2_with fail
  refine AW.out.mono ?_
  rintro e w1 ⟨rfl, hK1⟩
  clear AW
  have N := Lib.hid (new_tp hK1 hroom)
  go_wp2_with fail
  refine N.out.mono ?_
  rintro e w2 h
  rcases h with ⟨h, rfl, rfl⟩ | ⟨⟨hr1, hr2⟩, t, mb, rfl, hP2, _, _, _⟩
  · clear N
    have N2 := Lib.hid (new19_any room w1 hroom)
    go_wp2_with fail
    refine N2.out.mono ?_
    rintro e w3 h2
    rcases h2 with ⟨_, rfl, rfl⟩ | ⟨⟨h3, h4⟩, _⟩
    · clear N2
      go_wp2_with fail
      go_ret
      exact ⟨rfl, hK1⟩
    · exfalso
      omega
  clear N hK1
  have N2 := Lib.hid (new19_any room w2 hroom)
  go_wp2_with fail
  refine N2.out.mono ?_
  rintro e w3 h2
  rcases h2 with ⟨h3, _⟩ | ⟨_, r, rfl, hF3, hK3⟩
  · exfalso
    omega
  have hP3 := hP2.kept hK3
  have hF3' := hF3 w.heap.size hP2.since.size
  clear N2 hP2 hF3 hK3
  go_wp2_with fail
  go_loopg [9] l.length (fun gk i wr => ∃ (j : Nat) (E I : List TEnt) (G : List Int), j + gk = l.length ∧ i = .int .i64 j ∧ j ≤ 200 ∧ G.length ≤ j ∧ TabP w wr t mb room E G ∧ RefT wr w.heap.size r room I G ∧ SameT E I)
  case atStart => exact ⟨0, [], [], [], Nat.zero_add _, rfl, by omega, Nat.zero_le _, hP3, hF3', rfl⟩
  case round =>
    clear hP3 hF3'
    obtain ⟨j, E, I, G, hj, rfl, hj2, hGj, hP, hF, hSm⟩ := hrel
    have HSM := Lib.hid hSm
    clear hSm
    by_cases hgo : j < l.length ∧ j < 200
    · obtain ⟨hjl, hj200⟩ := hgo
      obtain ⟨b, o, rfl, hbl, hcell⟩ := HR.out j hjl
      obtain ⟨x, hxe⟩ : ∃ x, x = l[j] := ⟨_, rfl⟩
      rw [← hxe] at hcell
      have hok : tactOk w x := by rw [hxe]; exact HOK.out _ (List.getElem_mem hjl)
      have hcl := fun i hi => (hP.since.cell (p := ⟨b, o + j * 4 + i, none⟩) hbl (fun h => h)).trans (hcell i hi)
      have c0 : wr.cell? ⟨b, o + j * 4, none⟩ = some (.int .i64 x.kind) := hcl 0 (by omega)
      have c1 : wr.cell? ⟨b, o + j * 4 + 1, none⟩ = some (.int .u16 x.ch) := hcl 1 (by omega)
      have c2 : wr.cell? ⟨b, o + j * 4 + 2, none⟩ = some (.slice x.A x.who.length x.c) := hcl 2 (by omega)
      have c3 : wr.cell? ⟨b, o + j * 4 + 3, none⟩ = some (.int .i64 x.seq) := hcl 3 (by omega)
      have i0 : (0 : Int) ≤ (j : Int) := by omega
      have i1 : (j : Int) < (l.length : Int) := by omega
      have d200 : decide ((j : Int) < 200) = true := by rw [decide_eq_true_eq]; omega
      have hK3 : Kept wr (wr.alloc (.cells #[.int .i64 x.kind, .int .u16 x.ch, .slice x.A x.who.length x.c, .int .i64 x.seq] 62)) := (Turned.refl _ wr).alloc _
      have hP3 := hP.kept hK3
      have hF3 := hF.kept hK3
      have hX3 : Blk (wr.alloc (.cells #[.int .i64 x.kind, .int .u16 x.ch, .slice x.A x.who.length x.c, .int .i64 x.seq] 62)) wr.heap.size 62 #[.int .i64 x.kind, .int .u16 x.ch, .slice x.A x.who.length x.c, .int .i64 x.seq] := Blk.new wr _ _
      clear hxe hcell hcl hP hF
      go_wp2_with fail
      refine (large_tact hP3.since hok).mono ?_
      rintro e wx ⟨rfl, rfl⟩
      generalize wr.alloc (.cells #[.int .i64 x.kind, .int .u16 x.ch, .slice x.A x.who.length x.c, .int .i64 x.seq] 62) = w3 at hP3 hF3 hX3 ⊢
      generalize wr.heap.size = gx at hX3 ⊢
      clear c0 c1 c2 c3 hK3
      rcases hla : largeR 100 x.who with _ | _
      · have hsm := smallT_of hla
        clear hla
        have x0 : w3.cell? ⟨gx, 0, none⟩ = some (.int .i64 x.kind) := hX3.cell 0
        have x1 : w3.cell? ⟨gx, 1, none⟩ = some (.int .u16 x.ch) := hX3.cell 1
        have x2 : w3.cell? ⟨gx, 2, none⟩ = some (.slice x.A x.who.length x.c) := hX3.cell 2
        have x3 : w3.cell? ⟨gx, 3, none⟩ = some (.int .i64 x.seq) := hX3.cell 3
        have hgx := hX3.lt
        have hK4 : Kept w3 (w3.alloc (.cells #[.int .i64 x.kind, .int .u16 x.ch, .slice x.A x.who.length x.c, .int .i64 x.seq] 62)) := (Turned.refl _ w3).alloc _
        have hP4 := hP3.kept hK4
        have hF4 := hF3.kept hK4
        have hX4 := hX3.turned hK4 (fun h => h)
        have hY4 : Blk (w3.alloc (.cells #[.int .i64 x.kind, .int .u16 x.ch, .slice x.A x.who.length x.c, .int .i64 x.seq] 62)) w3.heap.size 62 #[.int .i64 x.kind, .int .u16 x.ch, .slice x.A x.who.length x.c, .int .i64 x.seq] := Blk.new w3 _ _
        have hgy : w.heap.size ≤ w3.heap.size := hP3.since.size
        have hxy : gx ≠ w3.heap.size := by omega
        clear hP3 hF3 hX3 hK4
        go_upto_region 14 with (fail)
        generalize w3.alloc (.cells #[.int .i64 x.kind, .int .u16 x.ch, .slice x.A x.who.length x.c, .int .i64 x.seq] 62) = w4 at hP4 hF4 hX4 hY4 ⊢
        generalize w3.heap.size = gy at hY4 hgy hxy ⊢
        clear x0 x1 x2 x3 hgx
        have hylt := hY4.lt
        have hxlt := hX4.lt
        have hE := own_empty w4 w4.heap.size 51 1 (Nat.le_refl _)
        have hrd := hok.reads.kept (hP4.since.alloc (.cells #[] 51))
        have hsz4 : w4.heap.size ≤ (w4.alloc (.cells #[] 51)).heap.size := by simp
        have e2 : (w4.alloc (.cells #[] 51)).cell? ⟨gx, 2, none⟩ = some (.slice x.A x.who.length x.c) := (hX4.alloc _).cell 2
        have hwl := hsm.len
        go_upto_region 15 with (at_builtin; refine wpList_append_reads (V := Value.string) rfl (.tmp 62) (.tmp 64) 23 rfl w4.heap.size 51 j0 _ 1 16 Try.underlying23 hj0 hy0 hy1 hy2 rfl (by omega) (fun _ => rfl) string_one _ _ _ rfl hE _ x.A _ x.c x.who rfl rfl hrd (by unfold maxLen; omega) (by omega) hsz4 ?_; intro v5 w5 O5 hg5; rw [Nat.zero_add, List.nil_append, cellsOf_one (fun _ => rfl)] at O5; obtain ⟨A5, c5, rfl⟩ := own_slice O5; have hT5 : Turned (fun k => w4.heap.size ≤ k) w4 w5 := ((Turned.refl _ w4).alloc _).grown hg5 (fun k h hk => own_base hE h); have hY5 := hY4.turned hT5 (by simp; omega); have k5 : w5.cell? ⟨gy, 2, none⟩ = some (.slice x.A x.who.length x.c) := hY5.cell 2; have kf := hY5.frozen 2; clear hg5)
        have hT6 : Turned (fun k => k = gy) w5 (w5.setCell ⟨gy, 2, none⟩ (.slice A5 x.who.length c5)) := (Turned.refl (fun k => k = gy) w5).setCell (p := ⟨gy, 2, none⟩) (fun _ => rfl) _
        have hT46 : Turned (fun k => w4.heap.size ≤ k ∨ k = gy) w4 (w5.setCell ⟨gy, 2, none⟩ (.slice A5 x.who.length c5)) := (hT5.mono (fun _ _ h => .inl h)).then_ hT6 (fun _ _ h => .inr h)
        have hmlt := hP4.tab.lt
        have hmy : mb ≠ gy := fun e => by subst e; exact hP4.tab.gone.blk_ne hY4 rfl
        have hsin := hP4.since.size
        have hP6 := hP4.beside hT46 (fun k ty cs _ hb ht e => by
          rcases e with e | e
          · have := hb.lt; omega
          · subst e; rcases ht with rfl | rfl <;> exact absurd rfl (Blk.ne_ hb hY4 (by decide))) (fun y hy g cs _ _ hb e => by
          rcases e with e | e
          · have := hb.lt; omega
          · subst e; exact absurd rfl (Blk.ne_ hb hY4 (by decide))) (by omega) (fun k hk e => by omega)
        have hF6 := hF4.beside hT46 (fun k ty cs _ hb ht e => by
          rcases e with e | e
          · have := hb.lt; omega
          · subst e; rcases ht with rfl | rfl | rfl <;> exact absurd rfl (Blk.ne_ hb hY4 (by decide))) (fun y hy g cs _ _ hb e => by
          rcases e with e | e
          · have := hb.lt; omega
          · subst e; exact absurd rfl (Blk.ne_ hb hY4 (by decide)))
        have hX6 := hX4.turned hT46 (by omega)
        have hY6 : Blk (w5.setCell ⟨gy, 2, none⟩ (.slice A5 x.who.length c5)) gy 62 (ownC x A5 c5) := hY5.set_ 2 _
        have hO6 := own_turned O5 hT6 (fun g hg e => by have := own_base O5 hg; omega)
        have HM1 : Hid (Mine A5 x.who.length c5 E) := fun y hy g hg e => by
          have h1 := own_base O5 hg
          have h2 := own_lt (hP4.tab.who y hy) e
          omega
        have HM2 : Hid (Mine A5 x.who.length c5 I) := fun y hy g hg e => by
          have h1 := own_base O5 hg
          have h2 := own_lt (hF4.who y hy) e
          omega
        have hB6 : LawT (w5.setCell ⟨gy, 2, none⟩ (.slice A5 x.who.length c5)) gx gy x A5 c5 w.heap.size (x.who.map Value.string) := ⟨hX6, hY6, own_weaken hO6 (by omega)⟩
        clear hT6 hT46 hmlt hmy hsin hP4 hF4 hX4 hX6 hY6 hO6 hY4 hY5 k5 kf O5 hT5 hE hrd hsz4 e2 hylt hxlt hxy
        generalize w5.setCell ⟨gy, 2, none⟩ (.slice A5 x.who.length c5) = w6 at hP6 hF6 hB6 ⊢
        have y0 : w6.cell? ⟨gy, 0, none⟩ = some (.int .i64 x.kind) := hB6.own.cell 0
        have y1 : w6.cell? ⟨gy, 1, none⟩ = some (.int .u16 x.ch) := hB6.own.cell 1
        have y2 : w6.cell? ⟨gy, 2, none⟩ = some (.slice A5 x.who.length c5) := hB6.own.cell 2
        have y3 : w6.cell? ⟨gy, 3, none⟩ = some (.int .i64 x.seq) := hB6.own.cell 3
        have DP := Lib.hid (play_any hP6 x.kind x.ch A5 c5 x.who x.seq hok.ch hsm.len hsm.words hB6.reads (fun b o h0 e _ => by
          obtain ⟨_, cs, hb⟩ := hB6.blk h0 e
          exact TFoot.not hb (by decide) (by decide) (hP6.tab.gone.blk_ne hb)))
        go_wp2_with fail
        refine DP.out.mono ?_
        rintro e w7 ⟨out, er, E', G', rfl, hP7, hT7, hst0, hown7⟩
        have hst : PStep room x E G out er E' G' := hst0
        have hB7 := hB6.tfoot hP6 hT7
        have hF7 := hF6.tfoot hP6 hT7
        have HM3 : Hid (Mine A5 x.who.length c5 E') := fun y hy g hg e => by
          rcases hown7 y hy with ⟨z, hz, hze⟩ | hb
          · exact HM1.out z hz g hg (hze.trans e)
          · have h1 := hb g e
            have h2 := own_lt hB6.row hg
            omega
        have HST := Lib.hid hst
        have HDIS := Lib.hid hP6.dis
        have hGl : G'.length ≤ j + 1 := by have := hst.few; omega
        have hIl : I.length ≤ 100 := by have := HSM.out.length; have := hP6.few; omega
        clear DP hst hst0 hown7 hT7 hB6 hF6 y0 y1 y2 y3 HM1 hP6
        have z0 : w7.cell? ⟨gx, 0, none⟩ = some (.int .i64 x.kind) := hB7.act.cell 0
        have z1 : w7.cell? ⟨gx, 1, none⟩ = some (.int .u16 x.ch) := hB7.act.cell 1
        have z2 : w7.cell? ⟨gx, 2, none⟩ = some (.slice x.A x.who.length x.c) := hB7.act.cell 2
        have z3 : w7.cell? ⟨gx, 3, none⟩ = some (.int .i64 x.seq) := hB7.act.cell 3
        go_upto_block 2 with (fail)
        go_cut [14, 15] (fun s14 s15 wx => s14 = .int .u16 out ∧ s15 = .int .i64 er ∧ ∃ I' : List TEnt, TabP w wx t mb room E' G' ∧ RefT wx w.heap.size r room I' G' ∧ SameT E' I' ∧ LawT wx gx gy x A5 c5 w.heap.size (x.who.map Value.string) ∧ Mine A5 x.who.length c5 I')
        case first =>
          by_cases k0 : x.kind = 0
          · as_aux_lemma =>
            have b0 : (x.kind == 0) = true := by simpa using k0
            have DS := Lib.hid (start_ref hF7 HSM.out HST.out k0 (by omega) (by omega) hr1 HDIS.out x.A x.c hok.ch hsm.len hsm.words (hok.reads.kept hP7.since) (fun b o h0 e _ hf => by
              obtain ⟨b', o', e', hb, _⟩ := hok.reads 0 h0
              rw [e] at e'
              cases e'
              have := hf.1
              omega))
            clear k0
            go_wp2_with fail
            refine DS.out.mono ?_
            rintro e w9 ⟨rfl, I', hF9, hS9, hT9, hfr9⟩
            have hP9 := hP7.ufoot hT9
            have hB9 := hB7.ufoot hT9
            have HM9 : Hid (Mine A5 x.who.length c5 I') := fun y hy g hg e => by
              rcases hfr9 y hy with ⟨z, hz, hze⟩ | hb
              · exact HM2.out z hz g hg (hze.trans e)
              · have h1 := hb g e
                have h2 := own_lt hB7.row hg
                omega
            clear DS
            go_wp2_with fail
            go_meet
            exact ⟨rfl, rfl, I', hP9, hF9, hS9, hB9, HM9.out⟩
          · have b0 : (x.kind == 0) = false := by simpa using k0
            by_cases k1 : x.kind = 1
            · as_aux_lemma =>
              have b1 : (x.kind == 1) = true := by simpa using k1
              have DS := Lib.hid (use_ref hF7 HSM.out HST.out k1 (by omega) (by omega))
              clear k0 k1
              go_wp2_with fail
              refine DS.out.mono ?_
              rintro e w9 ⟨rfl, rfl, I', hF9, hS9, hT9, hfr9⟩
              have hP9 := hP7.ufoot hT9
              have hB9 := hB7.ufoot hT9
              have HM9 : Hid (Mine A5 x.who.length c5 I') := fun y hy g hg e => by
                rcases hfr9 y hy with ⟨z, hz, hze⟩ | hb
                · exact HM2.out z hz g hg (hze.trans e)
                · have h1 := hb g e
                  have h2 := own_lt hB7.row hg
                  omega
              clear DS
              go_wp2_with fail
              go_meet
              exact ⟨rfl, rfl, I', hP9, hF9, hS9, hB9, HM9.out⟩
            · have b1 : (x.kind == 1) = false := by simpa using k1
              by_cases k2 : x.kind = 2
              · as_aux_lemma =>
                have b2 : (x.kind == 2) = true := by simpa using k2
                have DS := Lib.hid (close_ref hF7 HSM.out HST.out k2 (by omega) (by omega) hok.ch)
                clear k0 k1 k2
                go_wp2_with fail
                refine DS.out.mono ?_
                rintro e w9 ⟨rfl, rfl, I', hF9, hS9, hT9, hfr9⟩
                have hP9 := hP7.ufoot hT9
                have hB9 := hB7.ufoot hT9
                have HM9 : Hid (Mine A5 x.who.length c5 I') := fun y hy g hg e => by
                  rcases hfr9 y hy with ⟨z, hz, hze⟩ | hb
                  · exact HM2.out z hz g hg (hze.trans e)
                  · have h1 := hb g e
                    have h2 := own_lt hB7.row hg
                    omega
                clear DS
                go_wp2_with fail
                go_meet
                exact ⟨rfl, rfl, I', hP9, hF9, hS9, hB9, HM9.out⟩
              · have b2 : (x.kind == 2) = false := by simpa using k2
                obtain ⟨hn1, hn2, hn3, hn4⟩ := none_ref HSM.out HST.out k0 k1 k2
                have HN4 := Lib.hid hn4
                subst hn1 hn2
                rw [← hn3] at hF7
                clear k0 k1 k2 hn3 hn4
                go_wp2_with fail
                go_meet
                exact ⟨rfl, rfl, I, hP7, hF7, HN4.out, hB7, HM2.out⟩
        case rest =>
          obtain ⟨rfl, rfl, I', hP8, hF8, hS8, hB8, hM8⟩ := hcut
          have HS8 := Lib.hid hS8
          have HM8 := Lib.hid hM8
          clear hP7 hF7 hB7 HM2 HST HSM z0 z1 z2 z3 HDIS hIl hS8 hM8
          have bo : (out != out) = false := by simp
          have be : (er != er) = false := by simp
          have y2 : wc.cell? ⟨gy, 2, none⟩ = some (.slice A5 x.who.length c5) := hB8.own.cell 2
          obtain ⟨gkO, hgkO⟩ : ∃ g : Nat, g = gk := ⟨_, rfl⟩
          have HGKO : Hid (j + gkO = l.length) := by rw [hgkO]; exact Lib.hid hj
          have HG2 := Lib.hid hgkO
          have hwl2 := hsm.len
          clear hgkO hj
          go_wp2_with fail
          clear y2
          go_loopg [111] x.who.length (fun g2 v wr2 => ∃ (q : Nat) (L : List Value), q + g2 = x.who.length ∧ v = .int .i64 q ∧ TabP w wr2 t mb room E' G' ∧ RefT wr2 w.heap.size r room I' G' ∧ LawT wr2 gx gy x A5 c5 w.heap.size L)
          case atStart => exact ⟨0, _, Nat.zero_add _, rfl, hP8, hF8, hB8⟩
          case round =>
            clear hP8 hF8 hB8
            obtain ⟨q, L, hq, rfl, hP9, hF9, hB9⟩ := hrel
            by_cases hql : q < x.who.length
            · have y2 : wr.cell? ⟨gy, 2, none⟩ = some (.slice A5 x.who.length c5) := hB9.own.cell 2
              obtain ⟨g, rfl, hgl, hcell⟩ := own_at hB9.row hql
              have hob : (Value.slice (some ⟨g, 0, none⟩) x.who.length c5).ownBlock = some g := by simp [Value.ownBlock]
              obtain ⟨hgb, cs, hgB⟩ := own_blk hB9.row hob
              have hc0 := hcell 0 (by omega)
              have hLq : q < L.length := by have := hB9.row.1; omega
              rw [Nat.mul_one, Nat.add_zero, List.getElem?_eq_getElem hLq] at hc0
              have hfz := hgB.frozen q
              have q0 : (0 : Int) ≤ (q : Int) := by omega
              have q1 : (q : Int) < (x.who.length : Int) := by omega
              have hT : Turned (fun k => k = g) wr (wr.setCell ⟨g, q, none⟩ (.string ⟨#[63]⟩)) := (Turned.refl (fun k => k = g) wr).setCell (p := ⟨g, q, none⟩) (fun _ => rfl) _
              have hPn := hP9.beside hT (fun k ty cs' _ hb ht e => by subst e; rcases ht with rfl | rfl <;> exact absurd rfl (Blk.ne_ hb hgB (by decide))) (fun y hy g' cs' hg' _ _ e => by subst e; exact HM3.out y hy _ hob hg') (fun e => hP9.tab.gone.blk_ne hgB e.symm) (fun k hk e => by omega)
              have hFn := hF9.beside hT (fun k ty cs' _ hb ht e => by subst e; rcases ht with rfl | rfl | rfl <;> exact absurd rfl (Blk.ne_ hb hgB (by decide))) (fun y hy g' cs' hg' _ _ e => by subst e; exact HM8.out y hy _ hob hg')
              have hBn : LawT (wr.setCell ⟨g, q, none⟩ (.string ⟨#[63]⟩)) gx gy x (some ⟨g, 0, none⟩) c5 w.heap.size (L.set q (.string ⟨#[63]⟩)) := ⟨hB9.act.turned hT (fun e => by subst e; exact absurd rfl (Blk.ne_ hB9.act hgB (by decide))), hB9.own.turned hT (fun e => by subst e; exact absurd rfl (Blk.ne_ hB9.own hgB (by decide))), own_over hB9.row⟩
              clear hcell hP9 hF9 hB9 hgB hT
              go_wp2_with fail
              go_roundg (gk - 1)
              case measure => omega
              case rel => exact ⟨q + 1, _, by omega, by go_num, hPn, hFn, hBn⟩
            · have q1 : ¬ (q : Int) < (x.who.length : Int) := by omega
              have DA := Lib.hid (all_table hP9.tab (by have := hP9.few; omega))
              go_wp2_with fail
              refine DA.out.mono ?_
              rintro e w10 ⟨A9, c9, rfl, hO9, hK9⟩
              have hnew : Turned (fun k => wr.heap.size ≤ k) wr w10 := hK9.mono (fun _ _ h => h.elim)
              obtain ⟨v9, vo9, hb9, ho9, _⟩ := hF9.row
              obtain ⟨Ar, cr, rfl⟩ := own_slice ho9
              have r0 : w10.cell? ⟨r, 0, none⟩ = some (.slice Ar I'.length cr) := (hb9.turned hK9 (fun h => h)).cell 0
              have HLEN := Lib.hid HS8.out.length
              have dn : ((E'.length : Int) != (I'.length : Int)) = false := by rw [HLEN.out]; simp
              have hfew := hP9.few
              have HRD := Lib.hid (ReadsT.of_own (V := entV) (fun _ => rfl) ho9)
              have HB0 := Lib.hid hb9
              have HP9 := Lib.hid hP9
              have HF9 := Lib.hid hF9
              have HB9 := Lib.hid hB9
              obtain ⟨w9, rfl⟩ : ∃ w9 : World, w9 = wr := ⟨_, rfl⟩
              clear hP9 hF9 hB9 hb9 ho9 hK9 DA hq hql q1
              go_wp2_with fail
              go_loopg [131] E'.length (fun g3 v wr3 => ∃ (q : Nat) (L : List Value), q + g3 = E'.length ∧ v = .int .i64 q ∧ wr3.ownsRow w9.heap.size 56 1 (.slice A9 E'.length c9) E'.length L ∧ (∀ i, q ≤ i → L[i]? = (E'.map chV)[i]?) ∧ Turned (fun k => w9.heap.size ≤ k) w9 wr3)
              case atStart => exact ⟨0, _, Nat.zero_add _, rfl, hO9, fun _ _ => rfl, hnew⟩
              case round =>
                clear hO9 hnew r0
                obtain ⟨q3, L3, hq3, rfl, hO3, hL3, hT3⟩ := hrel
                have HL3 := Lib.hid hL3
                clear hL3
                by_cases hql3 : q3 < E'.length
                · have hqI : q3 < I'.length := by have := HLEN.out; omega
                  obtain ⟨g, rfl, hgl, hcell⟩ := own_at hO3 hql3
                  have hob : (Value.slice (some ⟨g, 0, none⟩) E'.length c9).ownBlock = some g := by simp [Value.ownBlock]
                  obtain ⟨hgb, cs, hgB⟩ := own_blk hO3 hob
                  obtain ⟨z, hze⟩ : ∃ z, z = I'[q3] := ⟨_, rfl⟩
                  have hzch : E'[q3].ch = z.ch := by rw [hze]; exact congrArg (fun q => q.1) (HS8.out.getElem hql3 hqI)
                  have hc0 : wr.cell? ⟨g, q3, none⟩ = some (.int .u16 z.ch) := by
                    have h1 := hcell 0 (by omega)
                    rw [Nat.mul_one, Nat.add_zero, HL3.out q3 (Nat.le_refl _), List.getElem?_map, List.getElem?_eq_getElem hql3] at h1
                    rw [h1, ← hzch]
                    rfl
                  obtain ⟨br, bo, rfl, hbr, hcr⟩ := HRD.out q3 hqI
                  rw [← hze] at hcr
                  have hcI : wr.cell? ⟨br, bo + q3 * 3, none⟩ = some (.int .u16 z.ch) := (hT3.cell (p := ⟨br, bo + q3 * 3, none⟩) hbr (by simp; omega)).trans (hcr 0 (by omega))
                  have r0 : wr.cell? ⟨r, 0, none⟩ = some (.slice (some ⟨br, bo, none⟩) I'.length cr) := (HB0.out.turned hT3 (by have := HB0.out.lt; simp; omega)).cell 0
                  have hfz := hgB.frozen q3
                  have q0 : (0 : Int) ≤ (q3 : Int) := by omega
                  have q1 : (q3 : Int) < (E'.length : Int) := by omega
                  have q2 : (q3 : Int) < (I'.length : Int) := by omega
                  have hTn : Turned (fun k => w9.heap.size ≤ k) w9 (wr.drew.setCell ⟨g, q3, none⟩ (.int .u16 0)) := hT3.drew.setCell (p := ⟨g, q3, none⟩) (fun _ => hgb) _
                  have hOn : (wr.drew.setCell ⟨g, q3, none⟩ (.int .u16 0)).ownsRow w9.heap.size 56 1 (.slice (some ⟨g, 0, none⟩) E'.length c9) E'.length (L3.set q3 (.int .u16 0)) := own_over (own_turned hO3 ((Turned.refl (fun _ => False) wr).drew) (fun _ _ h => h))
                  have dz : (z.ch != z.ch) = false := by simp
                  clear hcell hcr hze hzch hO3 hT3 hgB
                  go_wp2_with fail
                  refine wp_region_held_drew (S := fun W => W.cell? ⟨g, q3, none⟩ = some (.int .u16 z.ch) ∧ W.cell? ⟨r, 0, none⟩ = some (.slice (some ⟨br, bo, none⟩) I'.length cr) ∧ W.cell? ⟨br, bo + q3 * 3, none⟩ = some (.int .u16 z.ch)) (by kernel_rfl) ⟨hc0, r0, hcI⟩ (fun hHeld => ?_)
                  refine held_take 0 134 (v := ?_) ⟨_, rfl, rfl, by rfl, ?_⟩ (by kernel_rfl) (by kernel_rfl) (by kernel_rfl) (fun _ _ _ h => h) hHeld ?_
                  rotate_left
                  · (intro w hSw; (try dsimp only at hSw); go_simp; try with_reducible rfl)
                  simp only [Act.put, List.setIfInBounds_toArray, List.set_cons_zero, List.set_cons_succ]
                  refine held_take 1 135 (v := ?_) ⟨_, rfl, rfl, by rfl, ?_⟩ (by kernel_rfl) (by kernel_rfl) (by kernel_rfl) (fun _ _ _ h => h) hHeld ?_
                  rotate_left
                  · (intro w hSw; (try dsimp only at hSw); go_simp; try with_reducible rfl)
                  simp only [Act.put, List.setIfInBounds_toArray, List.set_cons_zero, List.set_cons_succ]
                  refine held_take 2 136 (v := ?_) ⟨_, rfl, rfl, by rfl, ?_⟩ (by kernel_rfl) (by kernel_rfl) (by kernel_rfl) (fun _ _ _ h => h) hHeld ?_
                  rotate_left
                  · (intro w hSw; (try dsimp only at hSw); go_simp; try with_reducible rfl)
                  simp only [Act.put, List.setIfInBounds_toArray, List.set_cons_zero, List.set_cons_succ]
                  refine held_take 3 137 (v := ?_) ⟨_, rfl, rfl, by rfl, ?_⟩ (by kernel_rfl) (by kernel_rfl) (by kernel_rfl) (fun _ _ _ h => h) hHeld ?_
                  rotate_left
                  · (intro w hSw; (try dsimp only at hSw); go_simp; try with_reducible rfl)
                  simp only [Act.put, List.setIfInBounds_toArray, List.set_cons_zero, List.set_cons_succ]
                  refine held_take 4 138 (v := ?_) ⟨_, rfl, rfl, by rfl, ?_⟩ (by kernel_rfl) (by kernel_rfl) (by kernel_rfl) (fun _ _ _ h => h) hHeld ?_
                  rotate_left
                  · (intro w hSw; (try dsimp only at hSw); go_simp; try with_reducible rfl)
                  simp only [Act.put, List.setIfInBounds_toArray, List.set_cons_zero, List.set_cons_succ]
                  refine held_take 5 139 (v := ?_) ⟨_, rfl, rfl, by rfl, ?_⟩ (by kernel_rfl) (by kernel_rfl) (by kernel_rfl) (fun _ _ _ h => h) hHeld ?_
                  rotate_left
                  · (intro w hSw; (try dsimp only at hSw); go_simp; try with_reducible rfl)
                  simp only [Act.put, List.setIfInBounds_toArray, List.set_cons_zero, List.set_cons_succ]
                  refine held_take 6 140 (v := ?_) ⟨_, rfl, rfl, by rfl, ?_⟩ (by kernel_rfl) (by kernel_rfl) (by kernel_rfl) (fun _ _ _ h => h) hHeld ?_
                  rotate_left
                  · (intro w hSw; (try dsimp only at hSw); go_simp; try with_reducible rfl)
                  simp only [Act.put, List.setIfInBounds_toArray, List.set_cons_zero, List.set_cons_succ]
                  refine held_take 7 141 (v := ?_) ⟨_, rfl, rfl, by rfl, ?_⟩ (by kernel_rfl) (by kernel_rfl) (by kernel_rfl) (fun _ _ _ h => h) hHeld ?_
                  rotate_left
                  · (intro w hSw; (try dsimp only at hSw); go_simp; try with_reducible rfl)
                  simp only [Act.put, List.setIfInBounds_toArray, List.set_cons_zero, List.set_cons_succ]
                  refine held_take 8 142 (v := ?_) ⟨_, rfl, rfl, by rfl, ?_⟩ (by kernel_rfl) (by kernel_rfl) (by kernel_rfl) (fun _ _ _ h => h) hHeld ?_
                  rotate_left
                  · (intro w hSw; (try dsimp only at hSw); go_simp; try with_reducible rfl)
                  simp only [Act.put, List.setIfInBounds_toArray, List.set_cons_zero, List.set_cons_succ]
                  refine held_take 9 143 (v := ?_) ⟨_, rfl, rfl, by rfl, ?_⟩ (by kernel_rfl) (by kernel_rfl) (by kernel_rfl) (fun _ _ _ h => h) hHeld ?_
                  rotate_left
                  · (intro w hSw; (try dsimp only at hSw); go_simp; try with_reducible rfl)
                  simp only [Act.put, List.setIfInBounds_toArray, List.set_cons_zero, List.set_cons_succ]
                  refine held_take 10 144 (v := ?_) ⟨_, rfl, rfl, by rfl, ?_⟩ (by kernel_rfl) (by kernel_rfl) (by kernel_rfl) (fun _ _ _ h => h) hHeld ?_
                  rotate_left
                  · (intro w hSw; (try dsimp only at hSw); go_simp; try with_reducible rfl)
                  simp only [Act.put, List.setIfInBounds_toArray, List.set_cons_zero, List.set_cons_succ]
                  refine held_take 11 145 (v := ?_) ⟨_, rfl, rfl, by rfl, ?_⟩ (by kernel_rfl) (by kernel_rfl) (by kernel_rfl) (fun _ _ _ h => h) hHeld ?_
                  rotate_left
                  · (intro w hSw; (try dsimp only at hSw); go_simp; try with_reducible rfl)
                  simp only [Act.put, List.setIfInBounds_toArray, List.set_cons_zero, List.set_cons_succ]
                  refine held_take 12 146 (v := ?_) ⟨_, rfl, rfl, by rfl, ?_⟩ (by kernel_rfl) (by kernel_rfl) (by kernel_rfl) (fun _ _ _ h => h) hHeld ?_
                  rotate_left
                  · (intro w hSw; (try dsimp only at hSw); go_simp; try with_reducible rfl)
                  simp only [Act.put, List.setIfInBounds_toArray, List.set_cons_zero, List.set_cons_succ]
                  refine wpAnyH_done (by kernel_rfl) ?_ _
                  go_wp2_with fail
                  go_roundg (gk - 1)
                  case measure => omega
                  case rel => exact ⟨q3 + 1, _, by omega, by go_num, hOn, fun i hi => by rw [List.getElem?_set_ne (by omega)]; exact HL3.out i (by omega), hTn⟩
                · have q1 : ¬ (q3 : Int) < (E'.length : Int) := by omega
                  have hP10 := HP9.out.newer hT3 (fun _ h => h)
                  have hF10 := HF9.out.newer hT3 (fun _ h => h)
                  have hB10 := HB9.out.newer hT3 (fun _ h => h)
                  have z1 : wr.cell? ⟨gx, 1, none⟩ = some (.int .u16 x.ch) := hB10.act.cell 1
                  have hK11 : Kept wr (wr.alloc (.cells #[.int .u16 c, .int .u16 x.ch] 56)) := (Turned.refl _ wr).alloc _
                  have HP11 := Lib.hid (hP10.kept hK11)
                  have HF11 := Lib.hid (hF10.kept hK11)
                  have hZ11 : Blk (wr.alloc (.cells #[.int .u16 c, .int .u16 x.ch] 56)) wr.heap.size 56 #[.int .u16 c, .int .u16 x.ch] := Blk.new wr _ _
                  have HZ11 := Lib.hid hZ11
                  clear HP9 HF9 HB9 HB0 HRD HL3 hO3 hT3 hK11 hP10 hF10 hB10 hZ11 hq3 hql3
                  go_wp2_with fail
                  generalize wr.alloc (.cells #[.int .u16 c, .int .u16 x.ch] 56) = w11 at HP11 HF11 HZ11 ⊢
                  generalize wr.heap.size = gz at HZ11 ⊢
                  clear z1
                  go_loopg [156] 2 (fun g4 v wr4 => ∃ q : Nat, q + g4 = 2 ∧ v = .int .i64 q ∧ Turned (fun k => w11.heap.size ≤ k) w11 wr4)
                  case atStart => exact ⟨0, Nat.zero_add _, rfl, Turned.refl _ _⟩
                  case round =>
                    obtain ⟨q4, hq4, rfl, hT4⟩ := hrel
                    have hP12 := HP11.out.newer hT4 (fun _ h => h)
                    have hF12 := HF11.out.newer hT4 (fun _ h => h)
                    by_cases hql4 : q4 < 2
                    · have hZ12 := HZ11.out.turned hT4 (by have := HZ11.out.lt; simp; omega)
                      obtain ⟨d, hdu, hd⟩ : ∃ d : Int, (0 ≤ d ∧ d ≤ 65535) ∧ wr.cell? ⟨gz, q4, none⟩ = some (.int .u16 d) := by
                        have : q4 = 0 ∨ q4 = 1 := by omega
                        rcases this with rfl | rfl
                        · exact ⟨c, HCU.out, hZ12.cell 0⟩
                        · exact ⟨x.ch, hok.ch, hZ12.cell 1⟩
                      have q0 : (0 : Int) ≤ (q4 : Int) := by omega
                      have q1 : (q4 : Int) < 2 := by omega
                      have hI100 : I'.length ≤ 100 := by have := HLEN.out; omega
                      obtain ⟨Aw, cw, hwe, hwr, hwn⟩ := who19_reads hF12 d
                      have CW := who_table hP12.tab (by omega) hdu
                      have CR := fun W (hK : Kept wr W) => who19_any (hF12.kept hK) (by omega) (by omega) d
                      have CL := fun W (hK : Kept wr W) => last_table (hP12.kept hK).tab (by omega) hdu
                      have CM := fun W (hK : Kept wr W) => last19_any (hF12.kept hK) (by omega) d
                      have CG := fun W (hK : Kept wr W) => gone_any (hP12.kept hK).tab hdu
                      have CH := fun W (hK : Kept wr W) => gone19_any (hF12.kept hK) (by omega) d
                      rw [HS8.out.whoT, HS8.out.getEr] at CW
                      rw [hwe] at CR
                      have hle : ∀ W, Kept wr W → last19 d I' = lastT d E' G' := fun _ _ => by rw [last19_eq (HS8.out.dis hP12.dis), HS8.out.lastT]
                      rw [hle wr (Turned.refl _ _)] at CM
                      generalize whoT d I' G' = wt at CW CR hwr hwn hwe
                      generalize getEr d I' G' = ge at CW CR
                      generalize lastT d E' G' = lt at CL CM hle
                      generalize goneB d G' = gb at CG CH
                      have DW := Lib.hid CW
                      have DR := Lib.hid CR
                      have DL := Lib.hid CL
                      have DM := Lib.hid CM
                      have DG := Lib.hid CG
                      have DH := Lib.hid CH
                      have HWR := Lib.hid hwr
                      obtain ⟨w12, rfl⟩ : ∃ w12 : World, w12 = wr := ⟨_, rfl⟩
                      obtain ⟨gk4, hgk4⟩ : ∃ g : Nat, g = gk := ⟨_, rfl⟩
                      have HGK4 : Hid (gk4 = gk ∧ q4 + gk = 2) := ⟨hgk4, hq4⟩
                      clear CW CR CL CM CG CH hwe hle hwr hZ12 hgk4 hq4 hP12 hF12 hdu
                      have e1 : (ge != ge) = false := by simp
                      have e2 : (lt != lt) = false := by simp
                      have e3 : (gb != gb) = false := by simp
                      go_wp2_with fail
                      refine DW.out.mono ?_
                      rintro e w13 ⟨A13, c13, rfl, hO13, hK13⟩
                      clear hd
                      go_wp2_with fail
                      refine (DR.out _ hK13).mono ?_
                      rintro e w14 ⟨rfl, hK14⟩
                      have hK14' := hK13.to hK14
                      have hO14 := own_turned hO13 hK14 (fun _ _ h => h)
                      have DE := Lib.hid (equal_any A13 Aw c13 cw _ _ wt wt w14 (by omega) (by omega) (ReadsT.of_one (V := Value.string) (fun _ => rfl) hO14) (HWR.out.kept hK14'))
                      rw [decide_eq_true rfl] at DE
                      go_wp2_with fail
                      refine DE.out.mono ?_
                      rintro e w15 ⟨rfl, n15, hn15⟩
                      have hK15 : Kept w14 w15 := by rw [hn15]; exact (Turned.refl _ w14).drewN n15
                      have hK15' := hK14'.to hK15
                      have hO15 := own_turned hO14 hK15 (fun _ _ h => h)
                      clear hn15 DE DR DW hO13 hO14 hK13 hK14 hK14' hK15
                      go_wp2_with fail
                      refine (DL.out _ hK15').mono ?_
                      rintro e w16 ⟨rfl, hK16⟩
                      have hK16' := hK15'.to hK16
                      have hO16 := own_turned hO15 hK16 (fun _ _ h => h)
                      go_wp2_with fail
                      refine (DM.out _ hK16').mono ?_
                      rintro e wx ⟨rfl, rfl⟩
                      go_wp2_with fail
                      refine (DG.out _ hK16').mono ?_
                      rintro e w17 ⟨rfl, hK17⟩
                      have hK17' := hK16'.to hK17
                      have hO17 := own_turned hO16 hK17 (fun _ _ h => h)
                      go_wp2_with fail
                      refine (DH.out _ hK17').mono ?_
                      rintro e wx ⟨rfl, rfl⟩
                      have hT17 : Turned (fun k => w11.heap.size ≤ k) w11 w17 := hT4.then_ hK17' (fun _ _ h => h.elim)
                      have hsz := hT4.size
                      have hOw := own_weaken hO17 hsz
                      clear DL DM DG DH hK15' hK16' hK17' hK16 hK17 hO15 hO16 hO17 hT4
                      go_wp2_with fail
                      go_loopg [201] wt.length (fun g5 v wr5 => ∃ (q : Nat) (L : List Value), q + g5 = wt.length ∧ v = .int .i64 q ∧ wr5.ownsRow w11.heap.size 51 1 (.slice A13 wt.length c13) wt.length L ∧ Turned (fun k => w11.heap.size ≤ k) w11 wr5)
                      case atStart => exact ⟨0, _, Nat.zero_add _, rfl, hOw, hT17⟩
                      case round =>
                        clear hOw hT17
                        obtain ⟨q5, L5, hq5, rfl, hO5, hT5⟩ := hrel
                        by_cases hql5 : q5 < wt.length
                        · obtain ⟨g, rfl, hgl, hcell⟩ := own_at hO5 hql5
                          have hob : (Value.slice (some ⟨g, 0, none⟩) wt.length c13).ownBlock = some g := by simp [Value.ownBlock]
                          obtain ⟨hgb, cs, hgB⟩ := own_blk hO5 hob
                          have hLq : q5 < L5.length := by have := hO5.1; omega
                          have hc0 := hcell 0 (by omega)
                          rw [Nat.mul_one, Nat.add_zero, List.getElem?_eq_getElem hLq] at hc0
                          have hfz := hgB.frozen q5
                          have p0 : (0 : Int) ≤ (q5 : Int) := by omega
                          have p1 : (q5 : Int) < (wt.length : Int) := by omega
                          have hTn : Turned (fun k => w11.heap.size ≤ k) w11 (wr.setCell ⟨g, q5, none⟩ (.string ⟨#[63]⟩)) := hT5.setCell (p := ⟨g, q5, none⟩) (fun _ => hgb) _
                          have hOn := own_over (j := q5) (u := .string ⟨#[63]⟩) hO5
                          clear hcell hgB hO5 hT5
                          go_wp2_with fail
                          go_roundg (gk - 1)
                          case measure => omega
                          case rel => exact ⟨q5 + 1, _, by omega, by go_num, hOn, hTn⟩
                        · have p1 : ¬ (q5 : Int) < (wt.length : Int) := by omega
                          clear hO5
                          go_wp2_with fail
                          go_roundg (gk4 - 1)
                          case measure => have := HGK4.out; omega
                          case rel => exact ⟨q4 + 1, by have := HGK4.out; omega, by go_num, hT5⟩
                    · have q1 : ¬ (q4 : Int) < 2 := by omega
                      have hG200 : G'.length ≤ j + 1 := hGl
                      go_wp2_with fail
                      go_roundg (gkO - 1)
                      case measure => have := HG2.out; have := HGKO.out; omega
                      case rel => exact ⟨j + 1, E', I', G', by have := HG2.out; have := HGKO.out; omega, by go_num, by omega, hG200, hP12, hF12, HS8.out⟩
      · go_wp2_with fail
        go_ret
        exact ⟨rfl, hP3.since⟩
    · have hend : l.length ≤ j ∨ (j < l.length ∧ decide ((j : Int) < 200) = false) := by
        by_cases h : j < l.length
        · refine .inr ⟨h, ?_⟩
          rw [decide_eq_false_iff_not]
          omega
        · exact .inl (by omega)
      clear hgo
      rcases hend with hend | ⟨hend, hend2⟩
      all_goals
        go_wp2_with fail
        go_ret
        exact ⟨rfl, hP.since⟩
end Go.Proofs.Ytnicfiochnkjbaa
