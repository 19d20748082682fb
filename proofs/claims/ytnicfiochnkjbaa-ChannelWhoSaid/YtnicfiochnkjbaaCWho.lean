/- ChannelWho: the walk. -/
import Derived.Test.YtnicfiochnkjbaaT13
namespace Go.Proofs.Ytnicfiochnkjbaa
open Go.RowKit
def intV (n : Int) : Value := .int .i64 n
structure WS where
  A : Option Addr
  c : Nat
  who : List ByteArray
def wsV (s : WS) : Value := .slice s.A s.who.length s.c
structure WhoI (w : World) (E : List TEnt) (fw : Int → Option WS) (fl : Int → Option Int) : Prop where
  has : ∀ x ∈ E, ∃ s, fw x.ch = some s ∧ s.who = x.who ∧ ReadsT Value.string w w.heap.size 1 s.A s.who
  last : ∀ x ∈ E, fl x.ch = some x.last
section
variable {w : World} {room out er : Int} {x : TAct} {E E' : List TEnt} {G G' : List Int} {fw : Int → Option WS} {fl : Int → Option Int}
theorem WhoI.sub (h : WhoI w E fw fl) (hs : ∀ x ∈ E', x ∈ E) : WhoI w E' fw fl := ⟨fun z hz => h.has z (hs z hz), fun z hz => h.last z (hs z hz)⟩
theorem who_open (h : WhoI w E fw fl) (hst : PStep room x E G out er E' G') (hk0 : x.kind = 0) (her : er = 0) (hr : ReadsT Value.string w w.heap.size 1 x.A x.who) : WhoI w E' (updF fw x.ch ⟨x.A, x.c, x.who⟩) (updF fl x.ch (-1)) := by
  rcases hst with ⟨_, hne, _, he, _, _⟩ | ⟨_, ho, _, he, ⟨y, hy1, hy2, hy3, rfl⟩, _⟩ | ⟨hk, _⟩ | ⟨hk, _⟩ | ⟨hk, _⟩
  · exact absurd (by rw [← he]; exact her) hne
  · have hn : ∀ z ∈ cutT room E, z.ch ≠ x.ch := fun z hz => found_none_ne (openEr_zero ho).2.2.1 z (cut_mem hz)
    refine ⟨fun z hz => ?_, fun z hz => ?_⟩
    · rcases List.mem_append.1 hz with hz | hz
      · obtain ⟨s, h1, h2, h3⟩ := h.has z (cut_mem hz)
        exact ⟨s, by unfold updF; rw [if_neg (hn z hz)]; exact h1, h2, h3⟩
      · rw [List.mem_singleton.1 hz, hy1]
        exact ⟨⟨x.A, x.c, x.who⟩, by unfold updF; rw [if_pos rfl], hy2.symm, hr⟩
    · rcases List.mem_append.1 hz with hz | hz
      · unfold updF
        rw [if_neg (hn z hz)]
        exact h.last z (cut_mem hz)
      · rw [List.mem_singleton.1 hz, hy1, hy3]
        unfold updF
        rw [if_pos rfl]
  · omega
  · omega
  · exact absurd hk0 hk
theorem who_use (h : WhoI w E fw fl) (hst : PStep room x E G out er E' G') (hk : E.Pairwise (fun a b => a.ch ≠ b.ch)) (hk1 : x.kind = 1) (her : er = 0) : WhoI w E' fw (updF fl x.ch x.seq) := by
  obtain ⟨a, ha, hac, _, _, _, rfl, _⟩ := use_ok hst hk1 her
  refine ⟨fun z hz => ?_, fun z hz => ?_⟩
  · rcases List.mem_append.1 hz with hz | hz
    · exact h.has z (dropE_mem hz)
    · rw [List.mem_singleton.1 hz]
      exact h.has a ha
  · rcases List.mem_append.1 hz with hz | hz
    · unfold updF
      rw [if_neg (dropE_ne hk z hz)]
      exact h.last z (dropE_mem hz)
    · rw [List.mem_singleton.1 hz]
      unfold updF
      rw [if_pos (show (a.to x.seq).ch = x.ch from hac)]
      rfl
theorem who_other (h : WhoI w E fw fl) (hst : PStep room x E G out er E' G') (h0 : ¬ (x.kind = 0 ∧ er = 0)) (h1 : ¬ (x.kind = 1 ∧ er = 0)) : WhoI w E' fw fl := by
  rcases hst with ⟨_, _, _, _, rfl, _⟩ | ⟨hk, _, _, he, _, _⟩ | ⟨hk, _, he, rfl, rfl⟩ | ⟨_, _, _, rfl, _⟩ | ⟨_, _, _, _, _, rfl, _⟩
  · exact h
  · exact absurd ⟨hk, he⟩ h0
  · have hne : er ≠ 0 := fun e => h1 ⟨hk, e⟩
    rw [he] at hne
    refine h.sub (fun z hz => ?_)
    unfold useEr at hne
    unfold useE at hz
    rcases ho : openT x.ch E G' with _ | a
    · rw [ho] at hz
      exact hz
    · rw [ho] at hz hne
      simp only at hz hne
      split at hz
      · exact hz
      · rename_i s0
        split at hz
        · exact hz
        · rename_i s1
          rw [if_neg s0, if_neg s1] at hne
          exact absurd rfl hne
  · refine h.sub (fun z hz => ?_)
    split at hz
    · exact dropE_mem hz
    · exact hz
  · exact h
theorem open_mem (hk : E.Pairwise (fun a b => a.ch ≠ b.ch)) (hd : ∀ x ∈ E, x.ch ∉ G) {z : TEnt} (hz : z ∈ E) : openT z.ch E G = some z := by
  have hg : goneB z.ch G = false := by unfold goneB; exact decide_eq_false (hd z hz)
  unfold openT
  rw [hg]
  show foundT z.ch E = some z
  unfold foundT
  rcases hf : E.find? (fun x => x.ch == z.ch) with _ | a
  · have := List.find?_eq_none.1 hf z hz
    simp at this
  · have h1 := List.mem_of_find?_eq_some hf
    have h2 : a.ch = z.ch := by simpa using List.find?_some hf
    rw [hf, same_ch hk h1 hz h2]
end
set_option maxRecDepth 100000 in
set_option maxHeartbeats 8000000 in
theorem whos_walk (room : Int) (A : Option Addr) (cap : Nat) (l : List TAct) (w : World) (hroom : i64 room) (hl : l.length ≤ maxLen) (hr : ReadsT tactV w w.heap.size 4 A l) (hok : ∀ x ∈ l, tactOk w x) :
    Calls Try.prog 12 #[.int .i64 room, .slice A l.length cap] w fun e w' => e = .returned (.bool true) ∧ Kept w w' := by
  have AW := Lib.hid (awake19_any w)
  have HR := Lib.hid hr
  have HOK := Lib.hid hok
  have hl2 := hl
  unfold maxLen at hl2
  have hmm := @run_makeMap Try.prog
  clear hr hok hl
  go_enter Try.func12, Try.ntmps12
  go_wp2_with fail
  refine AW.out.mono ?_
  rintro e w1 ⟨rfl, hK1⟩
  clear AW
  have N := Lib.hid (new_tp hK1 hroom)
  go_wp2_with fail
  refine N.out.mono ?_
  rintro e w2 h
  rcases h with ⟨_, rfl, rfl⟩ | ⟨⟨hr1, hr2⟩, t, mb, rfl, hP2, _, _, _⟩
  · clear N
    go_wp2_with fail
    go_ret
    exact ⟨rfl, hK1⟩
  clear N hK1
  have hP2a := hP2.kept ((Turned.refl (fun _ => False) w2).alloc (.map #[] 0))
  have hPm := hP2a.kept ((Turned.refl (fun _ => False) (w2.alloc (.map #[] 0))).alloc (.map #[] 0))
  have hWm : MapF ((w2.alloc (.map #[] 0)).alloc (.map #[] 0)) w2.heap.size wsV (fun _ => none) := (MapF.new w2).turned ((Turned.refl (fun _ => False) _).alloc _) (fun h => h)
  have hLm : MapF ((w2.alloc (.map #[] 0)).alloc (.map #[] 0)) (w2.heap.size + 1) intV (fun _ => none) := by
    have h := MapF.new (V := intV) (w2.alloc (.map #[] 0))
    rw [World.size_alloc] at h
    exact h
  have hnw : w2.heap.size ≠ mb := by have := hP2.tab.lt.2; omega
  have hnl : w2.heap.size + 1 ≠ mb := by have := hP2.tab.lt.2; omega
  have hgw : w.heap.size ≤ w2.heap.size := hP2.since.size
  have hgl : w.heap.size ≤ w2.heap.size + 1 := by omega
  have hwl : w2.heap.size ≠ w2.heap.size + 1 := by omega
  clear hP2 hP2a
  go_wp2_with fail
  clear hmm
  generalize (w2.alloc (.map #[] 0)).alloc (.map #[] 0) = w3 at hPm hWm hLm ⊢
  generalize w2.heap.size + 1 = ml at hLm hnl hgl hwl ⊢
  generalize w2.heap.size = mw at hWm hnw hgw hwl ⊢
  go_loopg [8] l.length (fun gk i wr => ∃ (j : Nat) (E : List TEnt) (G : List Int) (fw : Int → Option WS) (fl : Int → Option Int), j + gk = l.length ∧ i = .int .i64 j ∧ j ≤ 200 ∧ TabP w wr t mb room E G ∧ MapF wr mw wsV fw ∧ MapF wr ml intV fl ∧ WhoI w E fw fl)
  case atStart => exact ⟨0, [], [], fun _ => none, fun _ => none, Nat.zero_add _, rfl, by omega, hPm, hWm, hLm, ⟨fun x hx => (by cases hx), fun x hx => (by cases hx)⟩⟩
  case round =>
    clear hPm hWm hLm
    obtain ⟨j, E, G, fw, fl, hj, rfl, hj2, hP, hW, hL, hI⟩ := hrel
    have HI := Lib.hid hI
    clear hI
    by_cases hgo : j < l.length ∧ j < 200
    · obtain ⟨hjl, hj200⟩ := hgo
      obtain ⟨b, o, rfl, hbl, hcell⟩ := HR.out j hjl
      obtain ⟨x, hxe⟩ : ∃ x, x = l[j] := ⟨_, rfl⟩
      rw [← hxe] at hcell
      have hok : tactOk w x := by rw [hxe]; exact HOK.out _ (List.getElem_mem hjl)
      have HXE := Lib.hid hxe
      have hcl := fun i hi => (hP.since.cell (p := ⟨b, o + j * 4 + i, none⟩) hbl (fun h => h)).trans (hcell i hi)
      have c0 : wr.cell? ⟨b, o + j * 4, none⟩ = some (.int .i64 x.kind) := hcl 0 (by omega)
      have c1 : wr.cell? ⟨b, o + j * 4 + 1, none⟩ = some (.int .u16 x.ch) := hcl 1 (by omega)
      have c2 : wr.cell? ⟨b, o + j * 4 + 2, none⟩ = some (.slice x.A x.who.length x.c) := hcl 2 (by omega)
      have c3 : wr.cell? ⟨b, o + j * 4 + 3, none⟩ = some (.int .i64 x.seq) := hcl 3 (by omega)
      have i0 : (0 : Int) ≤ (j : Int) := by omega
      have i1 : (j : Int) < (l.length : Int) := by omega
      have d200 : decide ((j : Int) < 200) = true := by rw [decide_eq_true_eq]; omega
      have hK3 : Kept wr (wr.alloc (.cells #[.int .i64 x.kind, .int .u16 x.ch, .slice x.A x.who.length x.c, .int .i64 x.seq] 62)) := (Turned.refl _ wr).alloc _
      have hP3 := hP.kept hK3
      have hX3 : Blk (wr.alloc (.cells #[.int .i64 x.kind, .int .u16 x.ch, .slice x.A x.who.length x.c, .int .i64 x.seq] 62)) wr.heap.size 62 #[.int .i64 x.kind, .int .u16 x.ch, .slice x.A x.who.length x.c, .int .i64 x.seq] := Blk.new wr _ _
      have hW3 := hW.turned hK3 (fun h => h)
      have hL3 := hL.turned hK3 (fun h => h)
      clear hW hL
      clear hxe hcell hcl hP
      go_wp2_with fail
      refine (large_tact hP3.since hok).mono ?_
      rintro e wx ⟨rfl, rfl⟩
      generalize wr.alloc (.cells #[.int .i64 x.kind, .int .u16 x.ch, .slice x.A x.who.length x.c, .int .i64 x.seq] 62) = w3 at hP3 hX3 hW3 hL3 ⊢
      generalize wr.heap.size = gx at hX3 ⊢
      clear c0 c1 c2 c3 hK3
      rcases hla : largeR 100 x.who with _ | _
      · have hsm := smallT_of hla
        clear hla
        have x0 : w3.cell? ⟨gx, 0, none⟩ = some (.int .i64 x.kind) := hX3.cell 0
        have x1 : w3.cell? ⟨gx, 1, none⟩ = some (.int .u16 x.ch) := hX3.cell 1
        have x2 : w3.cell? ⟨gx, 2, none⟩ = some (.slice x.A x.who.length x.c) := hX3.cell 2
        have x3 : w3.cell? ⟨gx, 3, none⟩ = some (.int .i64 x.seq) := hX3.cell 3
        have DP := Lib.hid (play_act hP3 hok hsm)
        go_wp2_with fail
        refine DP.out.mono ?_
        rintro e w5 ⟨out, er, E', G', rfl, hP5, hT5, hst, hown5⟩
        have hX5 := hX3.turned hT5 (TFoot.not hX3 (by decide) (by decide) (hP3.tab.gone.blk_ne hX3))
        have y0 : w5.cell? ⟨gx, 0, none⟩ = some (.int .i64 x.kind) := hX5.cell 0
        have y1 : w5.cell? ⟨gx, 1, none⟩ = some (.int .u16 x.ch) := hX5.cell 1
        have y3 : w5.cell? ⟨gx, 3, none⟩ = some (.int .i64 x.seq) := hX5.cell 3
        have HST := Lib.hid hst
        have HOWN := Lib.hid hown5
        have HKY := Lib.hid hP3.keys
        have y2 : w5.cell? ⟨gx, 2, none⟩ = some (.slice x.A x.who.length x.c) := hX5.cell 2
        have hW5 := hW3.turned hT5 (hW3.tfoot hnw)
        have hL5 := hL3.turned hT5 (hL3.tfoot hnl)
        clear DP hst hown5 hT5 hX3 hW3 hL3 x0 x1 x2 x3
        by_cases hc0 : x.kind = 0 ∧ er = 0
        · obtain ⟨hk0, her⟩ := hc0
          have b0 : (x.kind == 0) = true := by simpa using hk0
          have b1 : (x.kind == 1) = false := by rw [beq_eq_false_iff_ne]; omega
          have HI8 := Lib.hid (who_open HI.out HST.out hk0 her hok.reads)
          obtain ⟨w6, hup1, hW6, hT6⟩ := hW5.put (T := 86) (e := 23) Try.underlying86 hok.ch ⟨x.A, x.c, x.who⟩
          have hP6 := hP5.mapped hW5 hT6 hnw hgw
          have hL6 := hL5.turned hT6 (fun e => hwl e.symm)
          have hX6 := hX5.turned hT6 (fun e => hW5.blk_ne hX5 e)
          obtain ⟨w7, hup2, hL7, hT7⟩ := hL6.put (T := 81) (e := 2) Try.underlying81 hok.ch (-1)
          have hP8 := hP6.mapped hL6 hT7 hnl hgl
          have hW8 := hW6.turned hT7 hwl
          have hL8 := hL7
          have z1 : w6.cell? ⟨gx, 1, none⟩ = some (.int .u16 x.ch) := hX6.cell 1
          have hX7 := hX6.turned hT7 (fun e => hL6.blk_ne hX6 e)
          have v0 : w7.cell? ⟨gx, 0, none⟩ = some (.int .i64 x.kind) := hX7.cell 0
          have hup1' : (Instr.mapUpdate 86 (.map (some mw)) (.int .u16 x.ch) (.slice x.A x.who.length x.c)).run Try.prog w5 = .ok () w6 := hup1
          have hup2' : (Instr.mapUpdate 81 (.map (some ml)) (.int .u16 x.ch) (.int .i64 (-1))).run Try.prog w6 = .ok () w7 := hup2
          subst her
          clear hk0 hup1 hup2 hW6 hT6 hP6 hL6 hX6 hL7 hT7 hX7 hP5 hW5 hL5 hX5 hP3
          have DA := Lib.hid (all_table hP8.tab (by have := hP8.few; omega))
          go_wp2_with fail
          refine DA.out.mono ?_
          rintro e w8 ⟨A8, c8, rfl, hO8, hK8⟩
          have hPq := hP8.kept hK8
          have hWq := hW8.turned hK8 (fun h => h)
          have hLq := hL8.turned hK8 (fun h => h)
          have hrq := ReadsT.of_one (V := chV) (fun _ => rfl) hO8
          have HRQ := Lib.hid hrq
          have HPQ := Lib.hid hPq
          have HWQ := Lib.hid hWq
          have HLQ := Lib.hid hLq
          have hfew := hPq.few
          obtain ⟨gkO, hgkO⟩ : ∃ g : Nat, g = gk := ⟨_, rfl⟩
          have HGKO : Hid (j + gkO = l.length) := by rw [hgkO]; exact Lib.hid hj
          have HG2 := Lib.hid hgkO
          clear DA hP8 hW8 hL8 hO8 hK8 hrq hPq hWq hLq hj hgkO
          go_wp2_with fail
          go_loopg [77] E'.length (fun g2 v wr2 => ∃ q : Nat, q + g2 = E'.length ∧ v = .int .i64 q ∧ Kept w8 wr2)
          case atStart => exact ⟨0, Nat.zero_add _, rfl, Turned.refl _ _⟩
          case round =>
            obtain ⟨q, hq, rfl, hKq⟩ := hrel
            by_cases hql : q < E'.length
            · obtain ⟨b9, o9, rfl, hb9, hc9⟩ := ReadsT.cell_one (V := chV) (fun _ => rfl) (HRQ.out.kept hKq) hql
              obtain ⟨z, hze⟩ : ∃ z, z = E'[q] := ⟨_, rfl⟩
              have hzm : z ∈ E' := by rw [hze]; exact List.getElem_mem hql
              rw [← hze] at hc9
              have hc9' : wr.cell? ⟨b9, o9 + q, none⟩ = some (.int .u16 z.ch) := hc9
              have hzu := HPQ.out.tab.okE z hzm
              have hop := open_mem HPQ.out.keys HPQ.out.dis hzm
              obtain ⟨_, hge, _⟩ := open_some hop
              have hwt : whoT z.ch E' G' = z.who := by unfold whoT; rw [hop]
              have hlt : lastT z.ch E' G' = z.last := by unfold lastT; rw [hop]
              have CW := who_table (HPQ.out.kept hKq).tab (by omega) hzu
              rw [hwt, hge] at CW
              have DW := Lib.hid CW
              obtain ⟨s, hs1, hs2, hs3⟩ := HI8.out.has z hzm
              have hl1 := HI8.out.last z hzm
              have hwl : z.who.length ≤ 16 := (setR_parts (HPQ.out.tab.set z hzm)).2.1
              have HS1 := Lib.hid hs1
              have HL1 := Lib.hid hl1
              have HS2 := Lib.hid hs2
              have HS3 := Lib.hid hs3
              have HZU := Lib.hid hzu
              have HLT := Lib.hid hlt
              have i0' : (0 : Int) ≤ (q : Int) := by omega
              have i1' : (q : Int) < (E'.length : Int) := by omega
              clear hze hzm hc9 hop hge hwt hlt CW hs1 hs2 hs3 hl1 hzu
              go_wp2_with fail
              refine DW.out.mono ?_
              rintro e w9 ⟨A9, c9, rfl, hO9, hK9⟩
              have hKq9 := hKq.to hK9
              have HHELD : Hid (∀ W, Kept w9 W → (Instr.lookup 86 (.map (some mw)) (.int .u16 z.ch) false).run Try.prog W = .ok (.slice s.A s.who.length s.c) W ∧ (Instr.lookup 81 (.map (some ml)) (.int .u16 z.ch) false).run Try.prog W = .ok (.int .i64 z.last) W) := fun W hW => by
                have h1 := (HWQ.out.turned (hKq9.to hW) (fun h => h)).look_some (T := 86) (e := 23) Try.underlying86 HZU.out HS1.out false
                have h2 := (HLQ.out.turned (hKq9.to hW) (fun h => h)).look_some (T := 81) (e := 2) Try.underlying81 HZU.out HL1.out false
                exact ⟨h1, h2⟩
              have DE : Hid (∀ W, Kept w9 W → Calls Try.prog 38 #[.slice A9 z.who.length c9, .slice s.A s.who.length s.c] W fun e w' => e = .returned (.bool true) ∧ Kept W w') := fun W hW => by
                have h := equal_any A9 s.A c9 s.c _ _ z.who s.who W (by omega) (by rw [HS2.out]; omega) ((ReadsT.of_one (V := Value.string) (fun _ => rfl) hO9).kept hW) (HS3.out.kept ((HPQ.out.since.to hKq9).to hW))
                rw [decide_eq_true HS2.out.symm] at h
                exact h.mono (fun e w' ⟨h1, n, h2⟩ => ⟨h1, by rw [h2]; exact (Turned.refl _ W).drewN n⟩)
              have DL : Hid (∀ W, Kept w9 W → Calls Try.prog 39 #[.pointer (some ⟨t, 0, none⟩), .int .u16 z.ch] W fun e w' => e = .returned (.int .i64 z.last) ∧ Kept W w') := fun W hW => by
                have h := last_table ((HPQ.out.kept (hKq9.to hW)).tab) (by omega) HZU.out
                rw [HLT.out] at h
                exact h
              have dz : (z.last != z.last) = false := by simp
              clear DW hO9 hK9 hc9'
              go_wp2_with fail
              refine wp_region_held_drew (S := fun W => (Instr.lookup 86 (.map (some mw)) (.int .u16 z.ch) false).run Try.prog W = .ok (.slice s.A s.who.length s.c) W ∧ (Instr.lookup 81 (.map (some ml)) (.int .u16 z.ch) false).run Try.prog W = .ok (.int .i64 z.last) W) (by kernel_rfl) (HHELD.out _ (Turned.refl _ w9).drew) (fun hHeld => ?_)
              refine held_take 0 87 (v := ?_) ⟨_, rfl, rfl, by rfl, ?_⟩ (by kernel_rfl) (by kernel_rfl) (by kernel_rfl) (fun _ _ _ h => h) hHeld ?_
              rotate_left
              · (intro w hSw; (try dsimp only at hSw); go_simp; try with_reducible rfl)
              simp only [Act.put, List.setIfInBounds_toArray, List.set_cons_zero, List.set_cons_succ]
              refine held_take 1 88 (v := ?_) ⟨_, rfl, rfl, by rfl, ?_⟩ (by kernel_rfl) (by kernel_rfl) (by kernel_rfl) (fun _ _ _ h => h) hHeld ?_
              rotate_left
              · (intro w hSw; (try dsimp only at hSw); go_simp; try with_reducible rfl)
              simp only [Act.put, List.setIfInBounds_toArray, List.set_cons_zero, List.set_cons_succ]
              refine held_take 2 89 (v := ?_) ⟨_, rfl, rfl, by rfl, ?_⟩ (by kernel_rfl) (by kernel_rfl) (by kernel_rfl) (fun _ _ _ h => h) hHeld ?_
              rotate_left
              · (intro w hSw; (try dsimp only at hSw); go_simp; try with_reducible rfl)
              simp only [Act.put, List.setIfInBounds_toArray, List.set_cons_zero, List.set_cons_succ]
              refine held_take 3 90 (v := ?_) ⟨_, rfl, rfl, by rfl, ?_⟩ (by kernel_rfl) (by kernel_rfl) (by kernel_rfl) (fun _ _ _ h => h) hHeld ?_
              rotate_left
              · (intro w hSw; (try dsimp only at hSw); go_simp; try with_reducible rfl)
              simp only [Act.put, List.setIfInBounds_toArray, List.set_cons_zero, List.set_cons_succ]
              refine held_take 4 91 (v := ?_) ⟨_, rfl, rfl, by rfl, ?_⟩ (by kernel_rfl) (by kernel_rfl) (by kernel_rfl) (fun _ _ _ h => h) hHeld ?_
              rotate_left
              · (intro w hSw; (try dsimp only at hSw); go_simp; try with_reducible rfl)
              simp only [Act.put, List.setIfInBounds_toArray, List.set_cons_zero, List.set_cons_succ]
              refine held_take 5 92 (v := ?_) ⟨_, rfl, rfl, by rfl, ?_⟩ (by kernel_rfl) (by kernel_rfl) (by kernel_rfl) (fun _ _ _ h => h) hHeld ?_
              rotate_left
              · (intro w hSw; (try dsimp only at hSw); go_simp; try with_reducible rfl)
              simp only [Act.put, List.setIfInBounds_toArray, List.set_cons_zero, List.set_cons_succ]
              refine held_take 6 93 (v := ?_) ⟨_, rfl, rfl, by rfl, ?_⟩ (by kernel_rfl) (by kernel_rfl) (by kernel_rfl) (fun _ _ _ h => h) hHeld ?_
              rotate_left
              · (intro w hSw; (try dsimp only at hSw); go_simp; try with_reducible rfl)
              simp only [Act.put, List.setIfInBounds_toArray, List.set_cons_zero, List.set_cons_succ]
              refine wpAnyH_ready (rs := [7]) (by kernel_rfl) (by simp) ?_
              refine AllReadyH.cons (o := _) rfl (fun K hK => ?_) AllReadyH.nil
              go_simp
              go_at_call 38
              refine (DE.out _ ((Turned.refl _ w9).drew)).mono ?_
              rintro e w10 ⟨rfl, hq10⟩
              go_wp2_with fail
              have hk10 : Kept w9 w10 := ((Turned.refl _ w9).drew).to hq10
              refine hK.out _ _ (HHELD.out _ hk10) (fun hHeld => ?_)
              clear hK K
              refine held_take 8 95 (v := ?_) ⟨_, rfl, rfl, by rfl, ?_⟩ (by kernel_rfl) (by kernel_rfl) (by kernel_rfl) (fun _ _ _ h => h) hHeld ?_
              rotate_left
              · (intro w hSw; (try dsimp only at hSw); go_simp; try with_reducible rfl)
              simp only [Act.put, List.setIfInBounds_toArray, List.set_cons_zero, List.set_cons_succ]
              refine held_take 9 96 (v := ?_) ⟨_, rfl, rfl, by rfl, ?_⟩ (by kernel_rfl) (by kernel_rfl) (by kernel_rfl) (fun _ _ _ h => h) hHeld ?_
              rotate_left
              · (intro w hSw; (try dsimp only at hSw); go_simp; try with_reducible rfl)
              simp only [Act.put, List.setIfInBounds_toArray, List.set_cons_zero, List.set_cons_succ]
              refine held_take 10 97 (v := ?_) ⟨_, rfl, rfl, by rfl, ?_⟩ (by kernel_rfl) (by kernel_rfl) (by kernel_rfl) (fun _ _ _ h => h) hHeld ?_
              rotate_left
              · (intro w hSw; (try dsimp only at hSw); go_simp; try with_reducible rfl)
              simp only [Act.put, List.setIfInBounds_toArray, List.set_cons_zero, List.set_cons_succ]
              refine held_take 11 98 (v := ?_) ⟨_, rfl, rfl, by rfl, ?_⟩ (by kernel_rfl) (by kernel_rfl) (by kernel_rfl) (fun _ _ _ h => h) hHeld ?_
              rotate_left
              · (intro w hSw; (try dsimp only at hSw); go_simp; try with_reducible rfl)
              simp only [Act.put, List.setIfInBounds_toArray, List.set_cons_zero, List.set_cons_succ]
              refine held_take 12 99 (v := ?_) ⟨_, rfl, rfl, by rfl, ?_⟩ (by kernel_rfl) (by kernel_rfl) (by kernel_rfl) (fun _ _ _ h => h) hHeld ?_
              rotate_left
              · (intro w hSw; (try dsimp only at hSw); go_simp; try with_reducible rfl)
              simp only [Act.put, List.setIfInBounds_toArray, List.set_cons_zero, List.set_cons_succ]
              refine held_take 14 101 (v := ?_) ⟨_, rfl, rfl, by rfl, ?_⟩ (by kernel_rfl) (by kernel_rfl) (by kernel_rfl) (fun _ _ _ h => h) hHeld ?_
              rotate_left
              · (intro w hSw; (try dsimp only at hSw); go_simp; try with_reducible rfl)
              simp only [Act.put, List.setIfInBounds_toArray, List.set_cons_zero, List.set_cons_succ]
              refine held_take 15 102 (v := ?_) ⟨_, rfl, rfl, by rfl, ?_⟩ (by kernel_rfl) (by kernel_rfl) (by kernel_rfl) (fun _ _ _ h => h) hHeld ?_
              rotate_left
              · (intro w hSw; (try dsimp only at hSw); go_simp; try with_reducible rfl)
              simp only [Act.put, List.setIfInBounds_toArray, List.set_cons_zero, List.set_cons_succ]
              refine held_take 16 103 (v := ?_) ⟨_, rfl, rfl, by rfl, ?_⟩ (by kernel_rfl) (by kernel_rfl) (by kernel_rfl) (fun _ _ _ h => h) hHeld ?_
              rotate_left
              · (intro w hSw; (try dsimp only at hSw); go_simp; try with_reducible rfl)
              simp only [Act.put, List.setIfInBounds_toArray, List.set_cons_zero, List.set_cons_succ]
              refine wpAnyH_ready (rs := [13]) (by kernel_rfl) (by simp) ?_
              refine AllReadyH.cons (o := _) rfl (fun K hK => ?_) AllReadyH.nil
              go_simp
              go_at_call 39
              refine (DL.out _ hk10).mono ?_
              rintro e w11 ⟨rfl, hk11⟩
              go_wp2_with fail
              have hk911 := hk10.to hk11
              refine hK.out _ _ (HHELD.out _ hk911) (fun hHeld => ?_)
              clear hK K
              refine held_take 17 104 (v := ?_) ⟨_, rfl, rfl, by rfl, ?_⟩ (by kernel_rfl) (by kernel_rfl) (by kernel_rfl) (fun _ _ _ h => h) hHeld ?_
              rotate_left
              · (intro w hSw; (try dsimp only at hSw); go_simp; try with_reducible rfl)
              simp only [Act.put, List.setIfInBounds_toArray, List.set_cons_zero, List.set_cons_succ]
              refine held_take 18 105 (v := ?_) ⟨_, rfl, rfl, by rfl, ?_⟩ (by kernel_rfl) (by kernel_rfl) (by kernel_rfl) (fun _ _ _ h => h) hHeld ?_
              rotate_left
              · (intro w hSw; (try dsimp only at hSw); go_simp; try with_reducible rfl)
              simp only [Act.put, List.setIfInBounds_toArray, List.set_cons_zero, List.set_cons_succ]
              refine wpAnyH_done (by kernel_rfl) ?_ _
              have hKn := hKq9.to hk911
              go_wp2_with fail
              go_roundg (gk - 1)
              case measure => omega
              case rel => exact ⟨q + 1, by omega, by go_num, hKn⟩
            · have i1' : ¬ (q : Int) < (E'.length : Int) := by omega
              have hPn := HPQ.out.kept hKq
              have hWn := HWQ.out.turned hKq (fun h => h)
              have hLn := HLQ.out.turned hKq (fun h => h)
              go_wp2_with fail
              go_roundg (gkO - 1)
              case measure => have := HGKO.out; have := HG2.out; omega
              case rel => exact ⟨j + 1, E', G', _, _, by have := HGKO.out; have := HG2.out; omega, by go_num, by omega, hPn, hWn, hLn, HI8.out⟩
        · by_cases hc1 : x.kind = 1 ∧ er = 0
          · obtain ⟨hk1, her⟩ := hc1
            have b0 : (x.kind == 0) = false := by rw [beq_eq_false_iff_ne]; omega
            have b1 : (x.kind == 1) = true := by simpa using hk1
            have HI8 := Lib.hid (who_use HI.out HST.out HKY.out hk1 her)
            obtain ⟨w7, hup2, hL8, hT7⟩ := hL5.put (T := 81) (e := 2) Try.underlying81 hok.ch x.seq
            have hP8 := hP5.mapped hL5 hT7 hnl hgl
            have hW8 := hW5.turned hT7 hwl
            have hup2' : (Instr.mapUpdate 81 (.map (some ml)) (.int .u16 x.ch) (.int .i64 x.seq)).run Try.prog w5 = .ok () w7 := hup2
            subst her
            clear hk1 hup2 hT7 hP5 hW5 hL5 hX5 hP3 hc0
            have DA := Lib.hid (all_table hP8.tab (by have := hP8.few; omega))
            go_wp2_with fail
            refine DA.out.mono ?_
            rintro e w8 ⟨A8, c8, rfl, hO8, hK8⟩
            have hPq := hP8.kept hK8
            have hWq := hW8.turned hK8 (fun h => h)
            have hLq := hL8.turned hK8 (fun h => h)
            have hrq := ReadsT.of_one (V := chV) (fun _ => rfl) hO8
            have HRQ := Lib.hid hrq
            have HPQ := Lib.hid hPq
            have HWQ := Lib.hid hWq
            have HLQ := Lib.hid hLq
            have hfew := hPq.few
            obtain ⟨gkO, hgkO⟩ : ∃ g : Nat, g = gk := ⟨_, rfl⟩
            have HGKO : Hid (j + gkO = l.length) := by rw [hgkO]; exact Lib.hid hj
            have HG2 := Lib.hid hgkO
            clear DA hP8 hW8 hL8 hO8 hK8 hrq hPq hWq hLq hj hgkO
            go_wp2_with fail
            go_loopg [77] E'.length (fun g2 v wr2 => ∃ q : Nat, q + g2 = E'.length ∧ v = .int .i64 q ∧ Kept w8 wr2)
            case atStart => exact ⟨0, Nat.zero_add _, rfl, Turned.refl _ _⟩
            case round =>
              obtain ⟨q, hq, rfl, hKq⟩ := hrel
              by_cases hql : q < E'.length
              · obtain ⟨b9, o9, rfl, hb9, hc9⟩ := ReadsT.cell_one (V := chV) (fun _ => rfl) (HRQ.out.kept hKq) hql
                obtain ⟨z, hze⟩ : ∃ z, z = E'[q] := ⟨_, rfl⟩
                have hzm : z ∈ E' := by rw [hze]; exact List.getElem_mem hql
                rw [← hze] at hc9
                have hc9' : wr.cell? ⟨b9, o9 + q, none⟩ = some (.int .u16 z.ch) := hc9
                have hzu := HPQ.out.tab.okE z hzm
                have hop := open_mem HPQ.out.keys HPQ.out.dis hzm
                obtain ⟨_, hge, _⟩ := open_some hop
                have hwt : whoT z.ch E' G' = z.who := by unfold whoT; rw [hop]
                have hlt : lastT z.ch E' G' = z.last := by unfold lastT; rw [hop]
                have CW := who_table (HPQ.out.kept hKq).tab (by omega) hzu
                rw [hwt, hge] at CW
                have DW := Lib.hid CW
                obtain ⟨s, hs1, hs2, hs3⟩ := HI8.out.has z hzm
                have hl1 := HI8.out.last z hzm
                have hwl : z.who.length ≤ 16 := (setR_parts (HPQ.out.tab.set z hzm)).2.1
                have HS1 := Lib.hid hs1
                have HL1 := Lib.hid hl1
                have HS2 := Lib.hid hs2
                have HS3 := Lib.hid hs3
                have HZU := Lib.hid hzu
                have HLT := Lib.hid hlt
                have i0' : (0 : Int) ≤ (q : Int) := by omega
                have i1' : (q : Int) < (E'.length : Int) := by omega
                clear hze hzm hc9 hop hge hwt hlt CW hs1 hs2 hs3 hl1 hzu
                go_wp2_with fail
                refine DW.out.mono ?_
                rintro e w9 ⟨A9, c9, rfl, hO9, hK9⟩
                have hKq9 := hKq.to hK9
                have HHELD : Hid (∀ W, Kept w9 W → (Instr.lookup 86 (.map (some mw)) (.int .u16 z.ch) false).run Try.prog W = .ok (.slice s.A s.who.length s.c) W ∧ (Instr.lookup 81 (.map (some ml)) (.int .u16 z.ch) false).run Try.prog W = .ok (.int .i64 z.last) W) := fun W hW => by
                  have h1 := (HWQ.out.turned (hKq9.to hW) (fun h => h)).look_some (T := 86) (e := 23) Try.underlying86 HZU.out HS1.out false
                  have h2 := (HLQ.out.turned (hKq9.to hW) (fun h => h)).look_some (T := 81) (e := 2) Try.underlying81 HZU.out HL1.out false
                  exact ⟨h1, h2⟩
                have DE : Hid (∀ W, Kept w9 W → Calls Try.prog 38 #[.slice A9 z.who.length c9, .slice s.A s.who.length s.c] W fun e w' => e = .returned (.bool true) ∧ Kept W w') := fun W hW => by
                  have h := equal_any A9 s.A c9 s.c _ _ z.who s.who W (by omega) (by rw [HS2.out]; omega) ((ReadsT.of_one (V := Value.string) (fun _ => rfl) hO9).kept hW) (HS3.out.kept ((HPQ.out.since.to hKq9).to hW))
                  rw [decide_eq_true HS2.out.symm] at h
                  exact h.mono (fun e w' ⟨h1, n, h2⟩ => ⟨h1, by rw [h2]; exact (Turned.refl _ W).drewN n⟩)
                have DL : Hid (∀ W, Kept w9 W → Calls Try.prog 39 #[.pointer (some ⟨t, 0, none⟩), .int .u16 z.ch] W fun e w' => e = .returned (.int .i64 z.last) ∧ Kept W w') := fun W hW => by
                  have h := last_table ((HPQ.out.kept (hKq9.to hW)).tab) (by omega) HZU.out
                  rw [HLT.out] at h
                  exact h
                have dz : (z.last != z.last) = false := by simp
                clear DW hO9 hK9 hc9'
                go_wp2_with fail
                refine wp_region_held_drew (S := fun W => (Instr.lookup 86 (.map (some mw)) (.int .u16 z.ch) false).run Try.prog W = .ok (.slice s.A s.who.length s.c) W ∧ (Instr.lookup 81 (.map (some ml)) (.int .u16 z.ch) false).run Try.prog W = .ok (.int .i64 z.last) W) (by kernel_rfl) (HHELD.out _ (Turned.refl _ w9).drew) (fun hHeld => ?_)
                refine held_take 0 87 (v := ?_) ⟨_, rfl, rfl, by rfl, ?_⟩ (by kernel_rfl) (by kernel_rfl) (by kernel_rfl) (fun _ _ _ h => h) hHeld ?_
                rotate_left
                · (intro w hSw; (try dsimp only at hSw); go_simp; try with_reducible rfl)
                simp only [Act.put, List.setIfInBounds_toArray, List.set_cons_zero, List.set_cons_succ]
                refine held_take 1 88 (v := ?_) ⟨_, rfl, rfl, by rfl, ?_⟩ (by kernel_rfl) (by kernel_rfl) (by kernel_rfl) (fun _ _ _ h => h) hHeld ?_
                rotate_left
                · (intro w hSw; (try dsimp only at hSw); go_simp; try with_reducible rfl)
                simp only [Act.put, List.setIfInBounds_toArray, List.set_cons_zero, List.set_cons_succ]
                refine held_take 2 89 (v := ?_) ⟨_, rfl, rfl, by rfl, ?_⟩ (by kernel_rfl) (by kernel_rfl) (by kernel_rfl) (fun _ _ _ h => h) hHeld ?_
                rotate_left
                · (intro w hSw; (try dsimp only at hSw); go_simp; try with_reducible rfl)
                simp only [Act.put, List.setIfInBounds_toArray, List.set_cons_zero, List.set_cons_succ]
                refine held_take 3 90 (v := ?_) ⟨_, rfl, rfl, by rfl, ?_⟩ (by kernel_rfl) (by kernel_rfl) (by kernel_rfl) (fun _ _ _ h => h) hHeld ?_
                rotate_left
                · (intro w hSw; (try dsimp only at hSw); go_simp; try with_reducible rfl)
                simp only [Act.put, List.setIfInBounds_toArray, List.set_cons_zero, List.set_cons_succ]
                refine held_take 4 91 (v := ?_) ⟨_, rfl, rfl, by rfl, ?_⟩ (by kernel_rfl) (by kernel_rfl) (by kernel_rfl) (fun _ _ _ h => h) hHeld ?_
                rotate_left
                · (intro w hSw; (try dsimp only at hSw); go_simp; try with_reducible rfl)
                simp only [Act.put, List.setIfInBounds_toArray, List.set_cons_zero, List.set_cons_succ]
                refine held_take 5 92 (v := ?_) ⟨_, rfl, rfl, by rfl, ?_⟩ (by kernel_rfl) (by kernel_rfl) (by kernel_rfl) (fun _ _ _ h => h) hHeld ?_
                rotate_left
                · (intro w hSw; (try dsimp only at hSw); go_simp; try with_reducible rfl)
                simp only [Act.put, List.setIfInBounds_toArray, List.set_cons_zero, List.set_cons_succ]
                refine held_take 6 93 (v := ?_) ⟨_, rfl, rfl, by rfl, ?_⟩ (by kernel_rfl) (by kernel_rfl) (by kernel_rfl) (fun _ _ _ h => h) hHeld ?_
                rotate_left
                · (intro w hSw; (try dsimp only at hSw); go_simp; try with_reducible rfl)
                simp only [Act.put, List.setIfInBounds_toArray, List.set_cons_zero, List.set_cons_succ]
                refine wpAnyH_ready (rs := [7]) (by kernel_rfl) (by simp) ?_
                refine AllReadyH.cons (o := _) rfl (fun K hK => ?_) AllReadyH.nil
                go_simp
                go_at_call 38
                refine (DE.out _ ((Turned.refl _ w9).drew)).mono ?_
                rintro e w10 ⟨rfl, hq10⟩
                go_wp2_with fail
                have hk10 : Kept w9 w10 := ((Turned.refl _ w9).drew).to hq10
                refine hK.out _ _ (HHELD.out _ hk10) (fun hHeld => ?_)
                clear hK K
                refine held_take 8 95 (v := ?_) ⟨_, rfl, rfl, by rfl, ?_⟩ (by kernel_rfl) (by kernel_rfl) (by kernel_rfl) (fun _ _ _ h => h) hHeld ?_
                rotate_left
                · (intro w hSw; (try dsimp only at hSw); go_simp; try with_reducible rfl)
                simp only [Act.put, List.setIfInBounds_toArray, List.set_cons_zero, List.set_cons_succ]
                refine held_take 9 96 (v := ?_) ⟨_, rfl, rfl, by rfl, ?_⟩ (by kernel_rfl) (by kernel_rfl) (by kernel_rfl) (fun _ _ _ h => h) hHeld ?_
                rotate_left
                · (intro w hSw; (try dsimp only at hSw); go_simp; try with_reducible rfl)
                simp only [Act.put, List.setIfInBounds_toArray, List.set_cons_zero, List.set_cons_succ]
                refine held_take 10 97 (v := ?_) ⟨_, rfl, rfl, by rfl, ?_⟩ (by kernel_rfl) (by kernel_rfl) (by kernel_rfl) (fun _ _ _ h => h) hHeld ?_
                rotate_left
                · (intro w hSw; (try dsimp only at hSw); go_simp; try with_reducible rfl)
                simp only [Act.put, List.setIfInBounds_toArray, List.set_cons_zero, List.set_cons_succ]
                refine held_take 11 98 (v := ?_) ⟨_, rfl, rfl, by rfl, ?_⟩ (by kernel_rfl) (by kernel_rfl) (by kernel_rfl) (fun _ _ _ h => h) hHeld ?_
                rotate_left
                · (intro w hSw; (try dsimp only at hSw); go_simp; try with_reducible rfl)
                simp only [Act.put, List.setIfInBounds_toArray, List.set_cons_zero, List.set_cons_succ]
                refine held_take 12 99 (v := ?_) ⟨_, rfl, rfl, by rfl, ?_⟩ (by kernel_rfl) (by kernel_rfl) (by kernel_rfl) (fun _ _ _ h => h) hHeld ?_
                rotate_left
                · (intro w hSw; (try dsimp only at hSw); go_simp; try with_reducible rfl)
                simp only [Act.put, List.setIfInBounds_toArray, List.set_cons_zero, List.set_cons_succ]
                refine held_take 14 101 (v := ?_) ⟨_, rfl, rfl, by rfl, ?_⟩ (by kernel_rfl) (by kernel_rfl) (by kernel_rfl) (fun _ _ _ h => h) hHeld ?_
                rotate_left
                · (intro w hSw; (try dsimp only at hSw); go_simp; try with_reducible rfl)
                simp only [Act.put, List.setIfInBounds_toArray, List.set_cons_zero, List.set_cons_succ]
                refine held_take 15 102 (v := ?_) ⟨_, rfl, rfl, by rfl, ?_⟩ (by kernel_rfl) (by kernel_rfl) (by kernel_rfl) (fun _ _ _ h => h) hHeld ?_
                rotate_left
                · (intro w hSw; (try dsimp only at hSw); go_simp; try with_reducible rfl)
                simp only [Act.put, List.setIfInBounds_toArray, List.set_cons_zero, List.set_cons_succ]
                refine held_take 16 103 (v := ?_) ⟨_, rfl, rfl, by rfl, ?_⟩ (by kernel_rfl) (by kernel_rfl) (by kernel_rfl) (fun _ _ _ h => h) hHeld ?_
                rotate_left
                · (intro w hSw; (try dsimp only at hSw); go_simp; try with_reducible rfl)
                simp only [Act.put, List.setIfInBounds_toArray, List.set_cons_zero, List.set_cons_succ]
                refine wpAnyH_ready (rs := [13]) (by kernel_rfl) (by simp) ?_
                refine AllReadyH.cons (o := _) rfl (fun K hK => ?_) AllReadyH.nil
                go_simp
                go_at_call 39
                refine (DL.out _ hk10).mono ?_
                rintro e w11 ⟨rfl, hk11⟩
                go_wp2_with fail
                have hk911 := hk10.to hk11
                refine hK.out _ _ (HHELD.out _ hk911) (fun hHeld => ?_)
                clear hK K
                refine held_take 17 104 (v := ?_) ⟨_, rfl, rfl, by rfl, ?_⟩ (by kernel_rfl) (by kernel_rfl) (by kernel_rfl) (fun _ _ _ h => h) hHeld ?_
                rotate_left
                · (intro w hSw; (try dsimp only at hSw); go_simp; try with_reducible rfl)
                simp only [Act.put, List.setIfInBounds_toArray, List.set_cons_zero, List.set_cons_succ]
                refine held_take 18 105 (v := ?_) ⟨_, rfl, rfl, by rfl, ?_⟩ (by kernel_rfl) (by kernel_rfl) (by kernel_rfl) (fun _ _ _ h => h) hHeld ?_
                rotate_left
                · (intro w hSw; (try dsimp only at hSw); go_simp; try with_reducible rfl)
                simp only [Act.put, List.setIfInBounds_toArray, List.set_cons_zero, List.set_cons_succ]
                refine wpAnyH_done (by kernel_rfl) ?_ _
                have hKn := hKq9.to hk911
                go_wp2_with fail
                go_roundg (gk - 1)
                case measure => omega
                case rel => exact ⟨q + 1, by omega, by go_num, hKn⟩
              · have i1' : ¬ (q : Int) < (E'.length : Int) := by omega
                have hPn := HPQ.out.kept hKq
                have hWn := HWQ.out.turned hKq (fun h => h)
                have hLn := HLQ.out.turned hKq (fun h => h)
                go_wp2_with fail
                go_roundg (gkO - 1)
                case measure => have := HGKO.out; have := HG2.out; omega
                case rel => exact ⟨j + 1, E', G', _, _, by have := HGKO.out; have := HG2.out; omega, by go_num, by omega, hPn, hWn, hLn, HI8.out⟩
          · have HI8 := Lib.hid (who_other HI.out HST.out hc0 hc1)
            have hP8 := hP5
            have hW8 := hW5
            have hL8 := hL5
            have hways : ((x.kind == 0) = true ∧ (er == 0) = false ∧ (x.kind == 1) = false) ∨ ((x.kind == 0) = false ∧ (x.kind == 1) = true ∧ (er == 0) = false) ∨ ((x.kind == 0) = false ∧ (x.kind == 1) = false) := by
              by_cases g0 : x.kind = 0
              · exact .inl ⟨by simpa using g0, by rw [beq_eq_false_iff_ne]; exact fun e => hc0 ⟨g0, e⟩, by rw [beq_eq_false_iff_ne]; omega⟩
              · by_cases g1 : x.kind = 1
                · exact .inr (.inl ⟨by simpa using g0, by simpa using g1, by rw [beq_eq_false_iff_ne]; exact fun e => hc1 ⟨g1, e⟩⟩)
                · exact .inr (.inr ⟨by simpa using g0, by simpa using g1⟩)
            clear hc0 hc1 hP5 hW5 hL5 hX5 hP3
            rcases hways with ⟨b0, be, b1⟩ | ⟨b0, b1, be⟩ | ⟨b0, b1⟩
            all_goals
              have DA := Lib.hid (all_table hP8.tab (by have := hP8.few; omega))
              go_wp2_with fail
              refine DA.out.mono ?_
              rintro e w8 ⟨A8, c8, rfl, hO8, hK8⟩
              have hPq := hP8.kept hK8
              have hWq := hW8.turned hK8 (fun h => h)
              have hLq := hL8.turned hK8 (fun h => h)
              have hrq := ReadsT.of_one (V := chV) (fun _ => rfl) hO8
              have HRQ := Lib.hid hrq
              have HPQ := Lib.hid hPq
              have HWQ := Lib.hid hWq
              have HLQ := Lib.hid hLq
              have hfew := hPq.few
              obtain ⟨gkO, hgkO⟩ : ∃ g : Nat, g = gk := ⟨_, rfl⟩
              have HGKO : Hid (j + gkO = l.length) := by rw [hgkO]; exact Lib.hid hj
              have HG2 := Lib.hid hgkO
              clear DA hP8 hW8 hL8 hO8 hK8 hrq hPq hWq hLq hj hgkO
              go_wp2_with fail
              go_loopg [77] E'.length (fun g2 v wr2 => ∃ q : Nat, q + g2 = E'.length ∧ v = .int .i64 q ∧ Kept w8 wr2)
              case atStart => exact ⟨0, Nat.zero_add _, rfl, Turned.refl _ _⟩
              case round =>
                obtain ⟨q, hq, rfl, hKq⟩ := hrel
                by_cases hql : q < E'.length
                · obtain ⟨b9, o9, rfl, hb9, hc9⟩ := ReadsT.cell_one (V := chV) (fun _ => rfl) (HRQ.out.kept hKq) hql
                  obtain ⟨z, hze⟩ : ∃ z, z = E'[q] := ⟨_, rfl⟩
                  have hzm : z ∈ E' := by rw [hze]; exact List.getElem_mem hql
                  rw [← hze] at hc9
                  have hc9' : wr.cell? ⟨b9, o9 + q, none⟩ = some (.int .u16 z.ch) := hc9
                  have hzu := HPQ.out.tab.okE z hzm
                  have hop := open_mem HPQ.out.keys HPQ.out.dis hzm
                  obtain ⟨_, hge, _⟩ := open_some hop
                  have hwt : whoT z.ch E' G' = z.who := by unfold whoT; rw [hop]
                  have hlt : lastT z.ch E' G' = z.last := by unfold lastT; rw [hop]
                  have CW := who_table (HPQ.out.kept hKq).tab (by omega) hzu
                  rw [hwt, hge] at CW
                  have DW := Lib.hid CW
                  obtain ⟨s, hs1, hs2, hs3⟩ := HI8.out.has z hzm
                  have hl1 := HI8.out.last z hzm
                  have hwl : z.who.length ≤ 16 := (setR_parts (HPQ.out.tab.set z hzm)).2.1
                  have HS1 := Lib.hid hs1
                  have HL1 := Lib.hid hl1
                  have HS2 := Lib.hid hs2
                  have HS3 := Lib.hid hs3
                  have HZU := Lib.hid hzu
                  have HLT := Lib.hid hlt
                  have i0' : (0 : Int) ≤ (q : Int) := by omega
                  have i1' : (q : Int) < (E'.length : Int) := by omega
                  clear hze hzm hc9 hop hge hwt hlt CW hs1 hs2 hs3 hl1 hzu
                  go_wp2_with fail
                  refine DW.out.mono ?_
                  rintro e w9 ⟨A9, c9, rfl, hO9, hK9⟩
                  have hKq9 := hKq.to hK9
                  have HHELD : Hid (∀ W, Kept w9 W → (Instr.lookup 86 (.map (some mw)) (.int .u16 z.ch) false).run Try.prog W = .ok (.slice s.A s.who.length s.c) W ∧ (Instr.lookup 81 (.map (some ml)) (.int .u16 z.ch) false).run Try.prog W = .ok (.int .i64 z.last) W) := fun W hW => by
                    have h1 := (HWQ.out.turned (hKq9.to hW) (fun h => h)).look_some (T := 86) (e := 23) Try.underlying86 HZU.out HS1.out false
                    have h2 := (HLQ.out.turned (hKq9.to hW) (fun h => h)).look_some (T := 81) (e := 2) Try.underlying81 HZU.out HL1.out false
                    exact ⟨h1, h2⟩
                  have DE : Hid (∀ W, Kept w9 W → Calls Try.prog 38 #[.slice A9 z.who.length c9, .slice s.A s.who.length s.c] W fun e w' => e = .returned (.bool true) ∧ Kept W w') := fun W hW => by
                    have h := equal_any A9 s.A c9 s.c _ _ z.who s.who W (by omega) (by rw [HS2.out]; omega) ((ReadsT.of_one (V := Value.string) (fun _ => rfl) hO9).kept hW) (HS3.out.kept ((HPQ.out.since.to hKq9).to hW))
                    rw [decide_eq_true HS2.out.symm] at h
                    exact h.mono (fun e w' ⟨h1, n, h2⟩ => ⟨h1, by rw [h2]; exact (Turned.refl _ W).drewN n⟩)
                  have DL : Hid (∀ W, Kept w9 W → Calls Try.prog 39 #[.pointer (some ⟨t, 0, none⟩), .int .u16 z.ch] W fun e w' => e = .returned (.int .i64 z.last) ∧ Kept W w') := fun W hW => by
                    have h := last_table ((HPQ.out.kept (hKq9.to hW)).tab) (by omega) HZU.out
                    rw [HLT.out] at h
                    exact h
                  have dz : (z.last != z.last) = false := by simp
                  clear DW hO9 hK9 hc9'
                  go_wp2_with fail
                  refine wp_region_held_drew (S := fun W => (Instr.lookup 86 (.map (some mw)) (.int .u16 z.ch) false).run Try.prog W = .ok (.slice s.A s.who.length s.c) W ∧ (Instr.lookup 81 (.map (some ml)) (.int .u16 z.ch) false).run Try.prog W = .ok (.int .i64 z.last) W) (by kernel_rfl) (HHELD.out _ (Turned.refl _ w9).drew) (fun hHeld => ?_)
                  refine held_take 0 87 (v := ?_) ⟨_, rfl, rfl, by rfl, ?_⟩ (by kernel_rfl) (by kernel_rfl) (by kernel_rfl) (fun _ _ _ h => h) hHeld ?_
                  rotate_left
                  · (intro w hSw; (try dsimp only at hSw); go_simp; try with_reducible rfl)
                  simp only [Act.put, List.setIfInBounds_toArray, List.set_cons_zero, List.set_cons_succ]
                  refine held_take 1 88 (v := ?_) ⟨_, rfl, rfl, by rfl, ?_⟩ (by kernel_rfl) (by kernel_rfl) (by kernel_rfl) (fun _ _ _ h => h) hHeld ?_
                  rotate_left
                  · (intro w hSw; (try dsimp only at hSw); go_simp; try with_reducible rfl)
                  simp only [Act.put, List.setIfInBounds_toArray, List.set_cons_zero, List.set_cons_succ]
                  refine held_take 2 89 (v := ?_) ⟨_, rfl, rfl, by rfl, ?_⟩ (by kernel_rfl) (by kernel_rfl) (by kernel_rfl) (fun _ _ _ h => h) hHeld ?_
                  rotate_left
                  · (intro w hSw; (try dsimp only at hSw); go_simp; try with_reducible rfl)
                  simp only [Act.put, List.setIfInBounds_toArray, List.set_cons_zero, List.set_cons_succ]
                  refine held_take 3 90 (v := ?_) ⟨_, rfl, rfl, by rfl, ?_⟩ (by kernel_rfl) (by kernel_rfl) (by kernel_rfl) (fun _ _ _ h => h) hHeld ?_
                  rotate_left
                  · (intro w hSw; (try dsimp only at hSw); go_simp; try with_reducible rfl)
                  simp only [Act.put, List.setIfInBounds_toArray, List.set_cons_zero, List.set_cons_succ]
                  refine held_take 4 91 (v := ?_) ⟨_, rfl, rfl, by rfl, ?_⟩ (by kernel_rfl) (by kernel_rfl) (by kernel_rfl) (fun _ _ _ h => h) hHeld ?_
                  rotate_left
                  · (intro w hSw; (try dsimp only at hSw); go_simp; try with_reducible rfl)
                  simp only [Act.put, List.setIfInBounds_toArray, List.set_cons_zero, List.set_cons_succ]
                  refine held_take 5 92 (v := ?_) ⟨_, rfl, rfl, by rfl, ?_⟩ (by kernel_rfl) (by kernel_rfl) (by kernel_rfl) (fun _ _ _ h => h) hHeld ?_
                  rotate_left
                  · (intro w hSw; (try dsimp only at hSw); go_simp; try with_reducible rfl)
                  simp only [Act.put, List.setIfInBounds_toArray, List.set_cons_zero, List.set_cons_succ]
                  refine held_take 6 93 (v := ?_) ⟨_, rfl, rfl, by rfl, ?_⟩ (by kernel_rfl) (by kernel_rfl) (by kernel_rfl) (fun _ _ _ h => h) hHeld ?_
                  rotate_left
                  · (intro w hSw; (try dsimp only at hSw); go_simp; try with_reducible rfl)
                  simp only [Act.put, List.setIfInBounds_toArray, List.set_cons_zero, List.set_cons_succ]
                  refine wpAnyH_ready (rs := [7]) (by kernel_rfl) (by simp) ?_
                  refine AllReadyH.cons (o := _) rfl (fun K hK => ?_) AllReadyH.nil
                  go_simp
                  go_at_call 38
                  refine (DE.out _ ((Turned.refl _ w9).drew)).mono ?_
                  rintro e w10 ⟨rfl, hq10⟩
                  go_wp2_with fail
                  have hk10 : Kept w9 w10 := ((Turned.refl _ w9).drew).to hq10
                  refine hK.out _ _ (HHELD.out _ hk10) (fun hHeld => ?_)
                  clear hK K
                  refine held_take 8 95 (v := ?_) ⟨_, rfl, rfl, by rfl, ?_⟩ (by kernel_rfl) (by kernel_rfl) (by kernel_rfl) (fun _ _ _ h => h) hHeld ?_
                  rotate_left
                  · (intro w hSw; (try dsimp only at hSw); go_simp; try with_reducible rfl)
                  simp only [Act.put, List.setIfInBounds_toArray, List.set_cons_zero, List.set_cons_succ]
                  refine held_take 9 96 (v := ?_) ⟨_, rfl, rfl, by rfl, ?_⟩ (by kernel_rfl) (by kernel_rfl) (by kernel_rfl) (fun _ _ _ h => h) hHeld ?_
                  rotate_left
                  · (intro w hSw; (try dsimp only at hSw); go_simp; try with_reducible rfl)
                  simp only [Act.put, List.setIfInBounds_toArray, List.set_cons_zero, List.set_cons_succ]
                  refine held_take 10 97 (v := ?_) ⟨_, rfl, rfl, by rfl, ?_⟩ (by kernel_rfl) (by kernel_rfl) (by kernel_rfl) (fun _ _ _ h => h) hHeld ?_
                  rotate_left
                  · (intro w hSw; (try dsimp only at hSw); go_simp; try with_reducible rfl)
                  simp only [Act.put, List.setIfInBounds_toArray, List.set_cons_zero, List.set_cons_succ]
                  refine held_take 11 98 (v := ?_) ⟨_, rfl, rfl, by rfl, ?_⟩ (by kernel_rfl) (by kernel_rfl) (by kernel_rfl) (fun _ _ _ h => h) hHeld ?_
                  rotate_left
                  · (intro w hSw; (try dsimp only at hSw); go_simp; try with_reducible rfl)
                  simp only [Act.put, List.setIfInBounds_toArray, List.set_cons_zero, List.set_cons_succ]
                  refine held_take 12 99 (v := ?_) ⟨_, rfl, rfl, by rfl, ?_⟩ (by kernel_rfl) (by kernel_rfl) (by kernel_rfl) (fun _ _ _ h => h) hHeld ?_
                  rotate_left
                  · (intro w hSw; (try dsimp only at hSw); go_simp; try with_reducible rfl)
                  simp only [Act.put, List.setIfInBounds_toArray, List.set_cons_zero, List.set_cons_succ]
                  refine held_take 14 101 (v := ?_) ⟨_, rfl, rfl, by rfl, ?_⟩ (by kernel_rfl) (by kernel_rfl) (by kernel_rfl) (fun _ _ _ h => h) hHeld ?_
                  rotate_left
                  · (intro w hSw; (try dsimp only at hSw); go_simp; try with_reducible rfl)
                  simp only [Act.put, List.setIfInBounds_toArray, List.set_cons_zero, List.set_cons_succ]
                  refine held_take 15 102 (v := ?_) ⟨_, rfl, rfl, by rfl, ?_⟩ (by kernel_rfl) (by kernel_rfl) (by kernel_rfl) (fun _ _ _ h => h) hHeld ?_
                  rotate_left
                  · (intro w hSw; (try dsimp only at hSw); go_simp; try with_reducible rfl)
                  simp only [Act.put, List.setIfInBounds_toArray, List.set_cons_zero, List.set_cons_succ]
                  refine held_take 16 103 (v := ?_) ⟨_, rfl, rfl, by rfl, ?_⟩ (by kernel_rfl) (by kernel_rfl) (by kernel_rfl) (fun _ _ _ h => h) hHeld ?_
                  rotate_left
                  · (intro w hSw; (try dsimp only at hSw); go_simp; try with_reducible rfl)
                  simp only [Act.put, List.setIfInBounds_toArray, List.set_cons_zero, List.set_cons_succ]
                  refine wpAnyH_ready (rs := [13]) (by kernel_rfl) (by simp) ?_
                  refine AllReadyH.cons (o := _) rfl (fun K hK => ?_) AllReadyH.nil
                  go_simp
                  go_at_call 39
                  refine (DL.out _ hk10).mono ?_
                  rintro e w11 ⟨rfl, hk11⟩
                  go_wp2_with fail
                  have hk911 := hk10.to hk11
                  refine hK.out _ _ (HHELD.out _ hk911) (fun hHeld => ?_)
                  clear hK K
                  refine held_take 17 104 (v := ?_) ⟨_, rfl, rfl, by rfl, ?_⟩ (by kernel_rfl) (by kernel_rfl) (by kernel_rfl) (fun _ _ _ h => h) hHeld ?_
                  rotate_left
                  · (intro w hSw; (try dsimp only at hSw); go_simp; try with_reducible rfl)
                  simp only [Act.put, List.setIfInBounds_toArray, List.set_cons_zero, List.set_cons_succ]
                  refine held_take 18 105 (v := ?_) ⟨_, rfl, rfl, by rfl, ?_⟩ (by kernel_rfl) (by kernel_rfl) (by kernel_rfl) (fun _ _ _ h => h) hHeld ?_
                  rotate_left
                  · (intro w hSw; (try dsimp only at hSw); go_simp; try with_reducible rfl)
                  simp only [Act.put, List.setIfInBounds_toArray, List.set_cons_zero, List.set_cons_succ]
                  refine wpAnyH_done (by kernel_rfl) ?_ _
                  have hKn := hKq9.to hk911
                  go_wp2_with fail
                  go_roundg (gk - 1)
                  case measure => omega
                  case rel => exact ⟨q + 1, by omega, by go_num, hKn⟩
                · have i1' : ¬ (q : Int) < (E'.length : Int) := by omega
                  have hPn := HPQ.out.kept hKq
                  have hWn := HWQ.out.turned hKq (fun h => h)
                  have hLn := HLQ.out.turned hKq (fun h => h)
                  go_wp2_with fail
                  go_roundg (gkO - 1)
                  case measure => have := HGKO.out; have := HG2.out; omega
                  case rel => exact ⟨j + 1, E', G', _, _, by have := HGKO.out; have := HG2.out; omega, by go_num, by omega, hPn, hWn, hLn, HI8.out⟩
      · go_wp2_with fail
        go_ret
        exact ⟨rfl, hP3.since⟩
    · have hend : l.length ≤ j ∨ (j < l.length ∧ decide ((j : Int) < 200) = false) := by
        by_cases h : j < l.length
        · refine .inr ⟨h, ?_⟩
          rw [decide_eq_false_iff_not]
          omega
        · exact .inl (by omega)
      clear hgo
      rcases hend with hend | ⟨hend, hend2⟩
      all_goals
        go_wp2_with fail
        go_ret
        exact ⟨rfl, hP.since⟩
end Go.Proofs.Ytnicfiochnkjbaa
