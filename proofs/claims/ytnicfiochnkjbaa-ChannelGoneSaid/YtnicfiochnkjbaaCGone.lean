/- ChannelGone: the walk. -/
import Derived.Test.YtnicfiochnkjbaaCGone0
import Derived.Deep.CutBlock
import Derived.Test.YtnicfiochnkjbaaHeld
namespace Go.Proofs.Ytnicfiochnkjbaa
open Go.RowKit
theorem out_u16 {room out er : Int} {x : TAct} {E E' : List TEnt} {G G' : List Int} (hst : PStep room x E G out er E' G') (h0 : out ≠ 0) (hu : ∀ x ∈ E, u16 x.ch) : u16 out := by
  rcases hst with ⟨_, _, ho, _⟩ | ⟨_, _, ho, _⟩ | ⟨_, ho, _⟩ | ⟨_, ho, _⟩ | ⟨_, _, _, ho, _⟩
  · exact absurd ho h0
  · unfold outT at ho
    split at ho
    · split at ho
      · rw [ho]; exact hu _ (by simp)
      · exact absurd ho h0
    · exact absurd ho h0
  · exact absurd ho h0
  · exact absurd ho h0
  · exact absurd ho h0
/-- What the law's own map of this round says. -/
def InI (E : List TEnt) (q : Nat) (fI : Int → Option Bool) : Prop := (∀ c b, fI c = some b → b = true) ∧ ∀ c, fI c = some true ↔ ∃ x ∈ E.take q, x.ch = c
theorem InI.none {E : List TEnt} {q : Nat} {fI : Int → Option Bool} (h : InI E q fI) {c : Int} (hn : ∀ x ∈ E.take q, x.ch ≠ c) : fI c = none := by
  rcases hf : fI c with _ | b
  · rfl
  · have := h.1 c b hf
    subst this
    obtain ⟨x, hx, e⟩ := (h.2 c).1 hf
    exact absurd e (hn x hx)
theorem InI.add {E : List TEnt} {q : Nat} {fI : Int → Option Bool} (h : InI E q fI) (hq : q < E.length) : InI E (q + 1) (updF fI E[q].ch true) := by
  refine ⟨fun c b => updF_true h.1, fun c => ?_⟩
  rw [List.take_succ_eq_append_getElem hq]
  unfold updF
  constructor
  · intro hu
    split at hu
    · rename_i e
      exact ⟨E[q], List.mem_append.2 (.inr (by simp)), e.symm⟩
    · obtain ⟨x, hx, e⟩ := (h.2 c).1 hu
      exact ⟨x, List.mem_append.2 (.inl hx), e⟩
  · rintro ⟨x, hx, e⟩
    split
    · rfl
    · rename_i hne
      rcases List.mem_append.1 hx with hx | hx
      · exact (h.2 c).2 ⟨x, hx, e⟩
      · rw [List.mem_singleton.1 hx] at e
        exact absurd e.symm hne
theorem TabP.ranged {w W W' : World} {t mb b r : Nat} {k : TypeId} {room : Int} {E : List TEnt} {G : List Int} {l left : List (Value × Value)} (h : TabP w W t mb room E G) (hr : RangeAt W Try.prog k b r l left) (hT : Turned (fun i => i = r) W W') (hne : r ≠ mb) (hb : w.heap.size ≤ r) : TabP w W' t mb room E G :=
  ⟨h.tab.beside hT (fun k ty cs _ hB _ e => hr.blk_ne hB e) (fun x _ g cs _ _ hB e => hr.blk_ne hB e) (fun e => hne e.symm), h.since.then_ hT (fun i hi e => by omega), h.keys, h.dis, h.len, h.lo, h.hi, h.span⟩
theorem MapF.range_ne {W : World} {V : Bool → Value} {f : Int → Option Bool} {k : TypeId} {b b' r : Nat} {l left : List (Value × Value)} (h : MapF W b' V f) (hr : RangeAt W Try.prog k b r l left) : b' ≠ r := by
  obtain ⟨l', h1, _⟩ := h
  exact hr.map_ne h1
/-- What the law finds of a channel that it knows. -/
theorem gone_range {E : List TEnt} {G : List Int} {fK fG fI : Int → Option Bool} {c : Int} {bb : Bool} (h : GoneI E G fK fG) (hi : InI E E.length fI) (hd : ∀ x ∈ E, x.ch ∉ G) (hf : fK c = some bb) :
    ∃ g : Bool, goneB c G = g ∧ (g = false → fI c = some true ∧ fG c = none) ∧ (g = true → fI c = none ∧ fG c = some true) := by
  by_cases hg : c ∈ G
  · refine ⟨true, by unfold goneB; exact decide_eq_true hg, fun e => (by cases e), fun _ => ⟨hi.none (fun x hx e => ?_), (h.gg c).2 hg⟩⟩
    rw [List.take_length] at hx
    exact hd x hx (by rw [e]; exact hg)
  · refine ⟨false, by unfold goneB; exact decide_eq_false hg, fun _ => ⟨(hi.2 c).2 ?_, ?_⟩, fun e => (by cases e)⟩
    · rw [List.take_length]
      rcases h.kc c bb hf with hx | hx
      · exact hx
      · exact absurd hx hg
    · rcases hf2 : fG c with _ | b
      · rfl
      · have := h.gt c b hf2
        subst this
        exact absurd ((h.gg c).1 hf2) hg
set_option maxRecDepth 100000 in
set_option maxHeartbeats 8000000 in
theorem gone_walk (room : Int) (A : Option Addr) (cap : Nat) (l : List TAct) (w : World) (hroom : i64 room) (hl : l.length ≤ maxLen) (hr : ReadsT tactV w w.heap.size 4 A l) (hok : ∀ x ∈ l, tactOk w x) :
    Calls Try.prog 10 #[.int .i64 room, .slice A l.length cap] w fun e w' => e = .returned (.bool true) ∧ Kept w w' := by
  have AW := Lib.hid (awake19_any w)
  have HR := Lib.hid hr
  have HOK := Lib.hid hok
  have hl2 := hl
  unfold maxLen at hl2
  have hmm := @run_makeMap Try.prog
  clear hr hok hl
  go_enter Try.func10, Try.ntmps10
  go_wp2_with fail
  refine AW.out.mono ?_
  rintro e w1 ⟨rfl, hK1⟩
  clear AW
  have N := Lib.hid (new_tp hK1 hroom)
  go_wp2_with fail
  refine N.out.mono ?_
  rintro e w2 h
  rcases h with ⟨_, rfl, rfl⟩ | ⟨⟨hr1, hr2⟩, t, mb, rfl, hP2, _, _, _⟩
  · clear N
    go_wp2_with fail
    go_ret
    exact ⟨rfl, hK1⟩
  clear N hK1
  have hP2a := hP2.kept ((Turned.refl (fun _ => False) w2).alloc (.map #[] 0))
  have hPm := hP2a.kept ((Turned.refl (fun _ => False) (w2.alloc (.map #[] 0))).alloc (.map #[] 0))
  have hKmm : MapF ((w2.alloc (.map #[] 0)).alloc (.map #[] 0)) w2.heap.size Value.bool (fun _ => none) := (MapF.new w2).turned ((Turned.refl (fun _ => False) _).alloc _) (fun h => h)
  have hGmm : MapF ((w2.alloc (.map #[] 0)).alloc (.map #[] 0)) (w2.heap.size + 1) Value.bool (fun _ => none) := by
    have h := MapF.new (V := Value.bool) (w2.alloc (.map #[] 0))
    rw [World.size_alloc] at h
    exact h
  have hnk : w2.heap.size ≠ mb := by have := hP2.tab.lt.2; omega
  have hnn : w2.heap.size + 1 ≠ mb := by have := hP2.tab.lt.2; omega
  have hgk : w.heap.size ≤ w2.heap.size := hP2.since.size
  have hgn : w.heap.size ≤ w2.heap.size + 1 := by omega
  have hkn : w2.heap.size ≠ w2.heap.size + 1 := by omega
  clear hP2 hP2a
  go_wp2_with fail
  generalize (w2.alloc (.map #[] 0)).alloc (.map #[] 0) = w3 at hPm hKmm hGmm ⊢
  generalize w2.heap.size + 1 = mn at hGmm hnn hgn hkn ⊢
  generalize w2.heap.size = mk at hKmm hnk hgk hkn ⊢
  go_loopg [8] l.length (fun gk i wr => ∃ (j : Nat) (E : List TEnt) (G : List Int) (fK fG : Int → Option Bool), j + gk = l.length ∧ i = .int .i64 j ∧ j ≤ 200 ∧ TabP w wr t mb room E G ∧ MapF wr mk Value.bool fK ∧ MapF wr mn Value.bool fG ∧ GoneI E G fK fG)
  case atStart => exact ⟨0, [], [], fun _ => none, fun _ => none, Nat.zero_add _, rfl, by omega, hPm, hKmm, hGmm, ⟨fun c b h => (by cases h), fun c b h => (by cases h), fun x hx => (by cases hx), fun c b h => (by cases h), fun c => ⟨fun h => (by cases h), fun h => (by cases h)⟩, fun c hc => (by cases hc)⟩⟩
  case round =>
    clear hPm hKmm hGmm
    obtain ⟨j, E, G, fK, fG, hj, rfl, hj2, hP, hKm, hGm, hI⟩ := hrel
    have HI := Lib.hid hI
    clear hI
    by_cases hgo : j < l.length ∧ j < 200
    · obtain ⟨hjl, hj200⟩ := hgo
      obtain ⟨b, o, rfl, hbl, hcell⟩ := HR.out j hjl
      obtain ⟨x, hxe⟩ : ∃ x, x = l[j] := ⟨_, rfl⟩
      rw [← hxe] at hcell
      have hok : tactOk w x := by rw [hxe]; exact HOK.out _ (List.getElem_mem hjl)
      have HXE := Lib.hid hxe
      have hcl := fun i hi => (hP.since.cell (p := ⟨b, o + j * 4 + i, none⟩) hbl (fun h => h)).trans (hcell i hi)
      have c0 : wr.cell? ⟨b, o + j * 4, none⟩ = some (.int .i64 x.kind) := hcl 0 (by omega)
      have c1 : wr.cell? ⟨b, o + j * 4 + 1, none⟩ = some (.int .u16 x.ch) := hcl 1 (by omega)
      have c2 : wr.cell? ⟨b, o + j * 4 + 2, none⟩ = some (.slice x.A x.who.length x.c) := hcl 2 (by omega)
      have c3 : wr.cell? ⟨b, o + j * 4 + 3, none⟩ = some (.int .i64 x.seq) := hcl 3 (by omega)
      have i0 : (0 : Int) ≤ (j : Int) := by omega
      have i1 : (j : Int) < (l.length : Int) := by omega
      have d200 : decide ((j : Int) < 200) = true := by rw [decide_eq_true_eq]; omega
      have hK3 : Kept wr (wr.alloc (.cells #[.int .i64 x.kind, .int .u16 x.ch, .slice x.A x.who.length x.c, .int .i64 x.seq] 62)) := (Turned.refl _ wr).alloc _
      have hP3 := hP.kept hK3
      have hX3 : Blk (wr.alloc (.cells #[.int .i64 x.kind, .int .u16 x.ch, .slice x.A x.who.length x.c, .int .i64 x.seq] 62)) wr.heap.size 62 #[.int .i64 x.kind, .int .u16 x.ch, .slice x.A x.who.length x.c, .int .i64 x.seq] := Blk.new wr _ _
      have hKm3 := hKm.turned hK3 (fun h => h)
      have hGm3 := hGm.turned hK3 (fun h => h)
      clear hKm hGm
      clear hxe hcell hcl hP
      go_wp2_with fail
      refine (large_tact hP3.since hok).mono ?_
      rintro e wx ⟨rfl, rfl⟩
      generalize wr.alloc (.cells #[.int .i64 x.kind, .int .u16 x.ch, .slice x.A x.who.length x.c, .int .i64 x.seq] 62) = w3 at hP3 hX3 hKm3 hGm3 ⊢
      generalize wr.heap.size = gx at hX3 ⊢
      clear c0 c1 c2 c3 hK3
      rcases hla : largeR 100 x.who with _ | _
      · have hsm := smallT_of hla
        clear hla
        have x0 : w3.cell? ⟨gx, 0, none⟩ = some (.int .i64 x.kind) := hX3.cell 0
        have x1 : w3.cell? ⟨gx, 1, none⟩ = some (.int .u16 x.ch) := hX3.cell 1
        have x2 : w3.cell? ⟨gx, 2, none⟩ = some (.slice x.A x.who.length x.c) := hX3.cell 2
        have x3 : w3.cell? ⟨gx, 3, none⟩ = some (.int .i64 x.seq) := hX3.cell 3
        have DW := Lib.hid (gone_any hP3.tab hok.ch)
        go_wp2_with fail
        refine DW.out.mono ?_
        rintro e w4 ⟨rfl, hK4⟩
        have hP4 := hP3.kept hK4
        have hX4 := hX3.turned hK4 (fun h => h)
        have hKm4 := hKm3.turned hK4 (fun h => h)
        have hGm4 := hGm3.turned hK4 (fun h => h)
        clear DW x0 x1 x2 x3 hP3 hX3 hKm3 hGm3 hK4
        have x0 : w4.cell? ⟨gx, 0, none⟩ = some (.int .i64 x.kind) := hX4.cell 0
        have x1 : w4.cell? ⟨gx, 1, none⟩ = some (.int .u16 x.ch) := hX4.cell 1
        have x2 : w4.cell? ⟨gx, 2, none⟩ = some (.slice x.A x.who.length x.c) := hX4.cell 2
        have x3 : w4.cell? ⟨gx, 3, none⟩ = some (.int .i64 x.seq) := hX4.cell 3
        have DP := Lib.hid (play_act hP4 hok hsm)
        go_wp2_with fail
        refine DP.out.mono ?_
        rintro e w5 ⟨out, er, E', G', rfl, hP5, hT5, hst, hown5⟩
        have hX5 := hX4.turned hT5 (TFoot.not hX4 (by decide) (by decide) (hP4.tab.gone.blk_ne hX4))
        have hKm5 := hKm4.turned hT5 (hKm4.tfoot hnk)
        have hGm5 := hGm4.turned hT5 (hGm4.tfoot hnn)
        have y0 : w5.cell? ⟨gx, 0, none⟩ = some (.int .i64 x.kind) := hX5.cell 0
        have y1 : w5.cell? ⟨gx, 1, none⟩ = some (.int .u16 x.ch) := hX5.cell 1
        have HST := Lib.hid hst
        have hu16o : out ≠ 0 → (0 ≤ out ∧ out ≤ 65535) := fun h0 => out_u16 hst h0 hP4.tab.okE
        have HOU := Lib.hid hu16o
        have HWAS : Hid (goneB x.ch G = true → er = 21 ∨ (x.kind < 0 ∨ 2 < x.kind) ∨ (x.kind = 0 ∧ er = 2)) := fun hg => gone_was hst hP4.dis HI.out.sp (by unfold goneB at hg; exact of_decide_eq_true hg)
        have HKY := Lib.hid hP4.keys
        have HSP := Lib.hid hP4.span
        clear DP hst hown5 hT5 hX4 hKm4 hGm4 x0 x1 x2 x3 hP4 hu16o
        generalize goneB x.ch G = was at HWAS ⊢
        go_upto_region 16 with (fail)
        go_cut [77] (fun s77 wx => s77 = .bool false ∧ wx = w5)
        case first =>
          rcases was with _ | _
          · go_wp2_with fail
            go_meet
            exact ⟨rfl, rfl⟩
          · by_cases h21 : er = 21
            · have b : (er != 21) = false := by simp [h21]
              clear h21
              go_wp2_with fail
              go_meet
              exact ⟨rfl, rfl⟩
            · have b : (er != 21) = true := by rw [bne_iff_ne]; exact h21
              rcases HWAS.out rfl with h | (h | h) | ⟨h, he⟩
              · exact absurd h h21
              · have q1 : decide (0 ≤ x.kind) = false := by rw [decide_eq_false_iff_not]; omega
                clear h h21
                go_wp2_with fail
                go_meet
                exact ⟨rfl, rfl⟩
              · have q1 : decide (0 ≤ x.kind) = true := by rw [decide_eq_true_eq]; omega
                have q2 : decide (x.kind ≤ 2) = false := by rw [decide_eq_false_iff_not]; omega
                clear h h21
                go_wp2_with fail
                go_meet
                exact ⟨rfl, rfl⟩
              · have q1 : decide (0 ≤ x.kind) = true := by rw [decide_eq_true_eq]; omega
                have q2 : decide (x.kind ≤ 2) = true := by rw [decide_eq_true_eq]; omega
                have q3 : (x.kind == 0) = true := by simpa using h
                subst he
                clear h h21 b
                go_wp2_with fail
                go_meet
                exact ⟨rfl, rfl⟩
        case rest =>
          obtain ⟨rfl, hwx⟩ := hcut
          have hwx' := hwx.symm
          clear hwx
          subst hwx'
          clear HWAS
          obtain ⟨d0, hd0⟩ : ∃ d : Bool, d = decide (x.kind = 0 ∧ er = 0) := ⟨_, rfl⟩
          have HD0 := Lib.hid hd0
          clear hd0
          go_upto_region 18 with (fail)
          go_cut [84] (fun s84 wx => s84 = .bool d0 ∧ wx = w5)
          case first =>
            by_cases g0 : x.kind = 0
            · have b0 : (x.kind == 0) = true := by simpa using g0
              by_cases g1 : er = 0
              · have hd : d0 = true := by rw [HD0.out]; exact decide_eq_true ⟨g0, g1⟩
                subst hd g1
                clear g0
                go_wp2_with fail
                go_meet
                exact ⟨rfl, rfl⟩
              · have hd : d0 = false := by rw [HD0.out]; exact decide_eq_false (fun h => g1 h.2)
                have be : (er == 0) = false := by simpa using g1
                subst hd
                clear g0 g1
                go_wp2_with fail
                go_meet
                exact ⟨rfl, rfl⟩
            · have b0 : (x.kind == 0) = false := by simpa using g0
              have hd : d0 = false := by rw [HD0.out]; exact decide_eq_false (fun h => g0 h.1)
              subst hd
              clear g0
              go_wp2_with fail
              go_meet
              exact ⟨rfl, rfl⟩
          case rest =>
          obtain ⟨rfl, hwx⟩ := hcut
          have hwx' := hwx.symm
          clear hwx
          subst hwx'
          go_upto_if 84 with (fail)
          go_cut [85] (fun _s85 wx => ∃ fK' fG' : Int → Option Bool, TabP w wx t mb room E' G' ∧ MapF wx mk Value.bool fK' ∧ MapF wx mn Value.bool fG' ∧ Blk wx gx 62 #[.int .i64 x.kind, .int .u16 x.ch, .slice x.A x.who.length x.c, .int .i64 x.seq] ∧ (x.kind = 2 ∧ er = 0 → GoneI E' G' fK' (updF fG' x.ch true)) ∧ (¬ (x.kind = 2 ∧ er = 0) → GoneI E' G' fK' fG'))
          case first =>
            by_cases hc0 : x.kind = 0 ∧ er = 0
            · obtain ⟨hk0, her⟩ := hc0
              have hd : d0 = true := by rw [HD0.out]; exact decide_eq_true ⟨hk0, her⟩
              obtain ⟨g1, g2⟩ := gone_open HI.out HST.out hr1 HSP.out hk0 her
              obtain ⟨w6, hup1, hKm6, hT6⟩ := hKm5.put (T := 84) (e := 4) Try.underlying84 hok.ch true
              have hP6 := hP5.mapped hKm5 hT6 hnk hgk
              have hGm6 := hGm5.turned hT6 (fun e => hkn e.symm)
              have hX6 := hX5.turned hT6 (fun e => hKm5.blk_ne hX5 e)
              have hn2 : ¬ (x.kind = 2 ∧ er = 0) := fun h => by omega
              subst her hd
              by_cases hout : out = 0
              · have HG2 := Lib.hid (g2 hout)
                subst hout
                clear g1 g2 hk0 hT6
                go_wp2_with fail
                go_meet
                exact ⟨_, _, hP6, hKm6, hGm6, hX6, fun h => absurd h hn2, fun _ => HG2.out⟩
              · have bo : (out != 0) = true := by rw [bne_iff_ne]; exact hout
                have HG2 := Lib.hid (g1 hout)
                obtain ⟨w7, hup2, hGm7, hT7⟩ := hGm6.put (T := 84) (e := 4) Try.underlying84 (HOU.out hout) true
                have hP7 := hP6.mapped hGm6 hT7 hnn hgn
                have hKm7 := hKm6.turned hT7 hkn
                have hX7 := hX6.turned hT7 (fun e => hGm6.blk_ne hX6 e)
                clear g1 g2 hk0 hT6 hout hP6 hX6 hT7 hKm6 hGm6
                go_wp2_with fail
                go_meet
                exact ⟨_, _, hP7, hKm7, hGm7, hX7, fun h => absurd h hn2, fun _ => HG2.out⟩
            · have HC0 := Lib.hid hc0
              have hd : d0 = false := by rw [HD0.out]; exact decide_eq_false hc0
              subst hd
              clear hc0
              go_wp2_with fail
              go_meet
              exact ⟨_, _, hP5, hKm5, hGm5, hX5, fun h => gone_close HI.out HST.out HSP.out h.1 h.2, fun h => gone_other HI.out HST.out HKY.out HC0.out h⟩
          case rest =>
            obtain ⟨fK', fG', hP6, hKm6, hGm6, hX6, hi1, hi2⟩ := hcut
            have HI1 := Lib.hid hi1
            have HI2 := Lib.hid hi2
            clear hi1 hi2 hP5 hKm5 hGm5 hX5 y0 y1 HD0
            obtain ⟨w6, rfl⟩ : ∃ w6, w6 = wc := ⟨_, rfl⟩
            have y0 : w6.cell? ⟨gx, 0, none⟩ = some (.int .i64 x.kind) := hX6.cell 0
            have y1 : w6.cell? ⟨gx, 1, none⟩ = some (.int .u16 x.ch) := hX6.cell 1
            obtain ⟨d2, hd2⟩ : ∃ d : Bool, d = decide (x.kind = 2 ∧ er = 0) := ⟨_, rfl⟩
            have HD2 := Lib.hid hd2
            clear hd2
            go_upto_region 22 with (fail)
            go_cut [98] (fun s98 wx => s98 = .bool d2 ∧ wx = w6)
            case first =>
              by_cases g0 : x.kind = 2
              · have b0 : (x.kind == 2) = true := by simpa using g0
                by_cases g1 : er = 0
                · have hd : d2 = true := by rw [HD2.out]; exact decide_eq_true ⟨g0, g1⟩
                  subst hd g1
                  clear g0
                  go_wp2_with fail
                  go_meet
                  exact ⟨rfl, rfl⟩
                · have hd : d2 = false := by rw [HD2.out]; exact decide_eq_false (fun h => g1 h.2)
                  have be : (er == 0) = false := by simpa using g1
                  subst hd
                  clear g0 g1
                  go_wp2_with fail
                  go_meet
                  exact ⟨rfl, rfl⟩
              · have b0 : (x.kind == 2) = false := by simpa using g0
                have hd : d2 = false := by rw [HD2.out]; exact decide_eq_false (fun h => g0 h.1)
                subst hd
                clear g0
                go_wp2_with fail
                go_meet
                exact ⟨rfl, rfl⟩
            case rest =>
            obtain ⟨rfl, hwx⟩ := hcut
            have hwx' := hwx.symm
            clear hwx
            subst hwx'
            go_upto_if 98 with (fail)
            go_cut [99] (fun _s99 wx => ∃ fG2 : Int → Option Bool, TabP w wx t mb room E' G' ∧ MapF wx mk Value.bool fK' ∧ MapF wx mn Value.bool fG2 ∧ GoneI E' G' fK' fG2)
            case first =>
              by_cases hc2 : x.kind = 2 ∧ er = 0
              · have hd : d2 = true := by rw [HD2.out]; exact decide_eq_true hc2
                have HG2 := Lib.hid (HI1.out hc2)
                obtain ⟨w7, hup2, hGm7, hT7⟩ := hGm6.put (T := 84) (e := 4) Try.underlying84 hok.ch true
                have hP7 := hP6.mapped hGm6 hT7 hnn hgn
                have hKm7 := hKm6.turned hT7 hkn
                subst hd
                clear hc2 hT7
                go_wp2_with fail
                go_meet
                exact ⟨_, hP7, hKm7, hGm7, HG2.out⟩
              · have hd : d2 = false := by rw [HD2.out]; exact decide_eq_false hc2
                have HG2 := Lib.hid (HI2.out hc2)
                subst hd
                clear hc2
                go_wp2_with fail
                go_meet
                exact ⟨_, hP6, hKm6, hGm6, HG2.out⟩
            case rest =>
            obtain ⟨fG2, hP8, hKm8, hGm8, hI8⟩ := hcut
            have HI8 := Lib.hid hI8
            clear hI8 HI1 HI2 HD2 y0 y1 hX6 hP6 hKm6 hGm6
            obtain ⟨w8, rfl⟩ : ∃ w8, w8 = wc := ⟨_, rfl⟩
            have DA := Lib.hid (all_table hP8.tab (by have := hP8.few; omega))
            go_wp2_with fail
            refine DA.out.mono ?_
            rintro e w9 ⟨A9, c9, rfl, hO9, hK9⟩
            have dl : decide (room < (E'.length : Int)) = false := by have := hP8.len; rw [decide_eq_false_iff_not]; omega
            have hK10 : Kept w8 (w9.alloc (.map #[] 0)) := hK9.alloc _
            have hP10 := hP8.kept hK10
            have hKm10 := hKm8.turned hK10 (fun h => h)
            have hGm10 := hGm8.turned hK10 (fun h => h)
            have hIm10 : MapF (w9.alloc (.map #[] 0)) w9.heap.size Value.bool (fun _ => none) := MapF.new w9
            have hro := (ReadsT.of_one (V := chV) (fun _ => rfl) hO9).below (w' := w9.alloc (.map #[] 0)) (fun k hk => Below.heap_alloc w9 _ k hk)
            have hmi1 : w9.heap.size ≠ mb := by have := hP8.tab.lt.2; have := hK9.size; omega
            have hmi2 : w9.heap.size ≠ mk := by have := hKm8.lt; have := hK9.size; omega
            have hmi3 : w9.heap.size ≠ mn := by have := hGm8.lt; have := hK9.size; omega
            have hmi4 : w.heap.size ≤ w9.heap.size := by have := hP8.since.size; have := hK9.size; omega
            clear DA hO9 hK9 hK10 hP8 hKm8 hGm8
            go_wp2_with fail
            generalize w9.alloc (.map #[] 0) = w10 at hP10 hKm10 hGm10 hIm10 hro ⊢
            generalize w9.heap.size = mi at hIm10 hmi1 hmi2 hmi3 hmi4 hro ⊢
            have HRO := Lib.hid hro
            have HP10 := Lib.hid hP10
            have hE50 := hP10.few
            have HKm10 := Lib.hid hKm10
            have HGm10 := Lib.hid hGm10
            have HJ := Lib.hid hj
            obtain ⟨gkO, hgkO⟩ : ∃ g : Nat, g = gk := ⟨_, rfl⟩
            have HG2 := Lib.hid hgkO
            have hmiw : mi < w10.heap.size := hIm10.lt
            have HIM10 := Lib.hid hIm10
            clear hro hP10 hKm10 hGm10 hj hgkO
            go_loopg [111] E'.length (fun g2 v wr2 => ∃ (q : Nat) (fI : Int → Option Bool), q + g2 = E'.length ∧ v = .int .i64 q ∧ MapF wr2 mi Value.bool fI ∧ InI E' q fI ∧ Turned (fun k => k = mi) w10 wr2)
            case atStart => exact ⟨0, fun _ => none, Nat.zero_add _, rfl, hIm10, ⟨fun c b h => (by cases h), fun c => ⟨fun h => (by cases h), fun ⟨x, hx, _⟩ => (by simp at hx)⟩⟩, Turned.refl _ _⟩
            case round =>
              clear hIm10
              obtain ⟨q, fI, hq, rfl, hIm, hin, hTm⟩ := hrel
              have HIN := Lib.hid hin
              clear hin
              by_cases hql : q < E'.length
              · obtain ⟨b9, o9, rfl, hb9, hc9⟩ := ReadsT.cell_one (V := chV) (fun _ => rfl) HRO.out hql
                have HADD := Lib.hid (HIN.out.add hql)
                obtain ⟨z, hze⟩ : ∃ z, z = E'[q] := ⟨_, rfl⟩
                have hzm : z ∈ E' := by rw [hze]; exact List.getElem_mem hql
                have hnew : ∀ y ∈ E'.take q, y.ch ≠ z.ch := fun y hy e => by
                  obtain ⟨k, hk, rfl⟩ := List.getElem_of_mem hy
                  rw [List.length_take] at hk
                  rw [List.getElem_take] at e
                  have hpw := List.pairwise_iff_getElem.1 HP10.out.keys k q (by omega) hql (by omega)
                  rw [hze] at e
                  exact hpw e
                rw [← hze] at hc9 HADD
                have hc9' : wr.cell? ⟨b9, o9 + q, none⟩ = some (.int .u16 z.ch) := (hTm.cell (p := ⟨b9, o9 + q, none⟩) (Nat.lt_trans hb9 hmiw) (Nat.ne_of_lt hb9)).trans hc9
                have hzu := HP10.out.tab.okE z hzm
                have l1 := hIm.look_none (T := 84) (e := 4) (z := .bool false) Try.underlying84 hzu (HIN.out.none hnew) (by kernel_rfl) false
                have l2 := (HKm10.out.turned hTm (Ne.symm hmi2)).look_some (T := 84) (e := 4) Try.underlying84 hzu (HI8.out.ek z hzm) false
                have hgz : fG2 z.ch = none := by
                  rcases hf : fG2 z.ch with _ | bb
                  · rfl
                  · have := HI8.out.gt _ bb hf
                    subst this
                    exact absurd ((HI8.out.gg _).1 hf) (HP10.out.dis z hzm)
                have l3 := (HGm10.out.turned hTm (Ne.symm hmi3)).look_none (T := 84) (e := 4) (z := .bool false) Try.underlying84 hzu hgz (by kernel_rfl) false
                obtain ⟨w12, hup, hIm12, hT12⟩ := hIm.put (T := 84) (e := 4) Try.underlying84 hzu true
                simp only [Bool.false_eq_true, if_false] at l1 l2 l3
                have hTm2 := hTm.then_ hT12 (fun _ _ h => h)
                have i0' : (0 : Int) ≤ (q : Int) := by omega
                have i1' : (q : Int) < (E'.length : Int) := by omega
                clear hze hzm hnew hc9 hgz hT12 hzu
                go_wp2_with fail
                go_roundg (gk - 1)
                case measure => omega
                case rel => exact ⟨q + 1, _, by omega, by go_num, hIm12, HADD.out, hTm2⟩
              · have i1' : ¬ (q : Int) < (E'.length : Int) := by omega
                obtain rfl : q = E'.length := by omega
                have hP12 := HP10.out.mapped HIM10.out hTm hmi1 hmi4
                have hGm12 := HGm10.out.turned hTm (Ne.symm hmi3)
                obtain ⟨lk, hlk, hk2, hk3⟩ := HKm10.out.turned hTm (Ne.symm hmi2)
                have HK2 := Lib.hid hk2
                have HK3 := Lib.hid hk3
                clear hk2 hk3 HRO HP10 HKm10 HGm10 HIM10 hTm hq hmiw
                go_wp2_with (at_range; refine wpList_range_raw _ rfl _ 84 rfl 56 4 Try.underlying84 mk lk rfl hlk ?_; intro w13 hrg13 hK13 hs13)
                (try go_frame)
                have hP13 := hP12.kept hK13
                have hGm13 := hGm12.turned hK13 (fun h => h)
                have hIm13 := hIm.turned hK13 (fun h => h)
                have hrw : w.heap.size ≤ wr.heap.size := hP12.since.size
                have hrmb : wr.heap.size ≠ mb := by have := hP12.tab.lt.2; omega
                obtain ⟨r, hrr⟩ : ∃ r, r = wr.heap.size := ⟨_, rfl⟩
                rw [← hrr] at hrg13 hrw hrmb ⊢
                clear hs13 hlk hP12 hGm12 hIm hK13
                obtain ⟨wo, rfl⟩ : ∃ wo : World, wo = wr := ⟨_, rfl⟩
                have HRR := Lib.hid hrr
                clear hrr
                go_loopg [17] lk.length (fun g3 _s wr3 => ∃ left, left.length = g3 ∧ RangeAt wr3 Try.prog 56 mk r lk left ∧ TabP w wr3 t mb room E' G' ∧ MapF wr3 mi Value.bool fI ∧ MapF wr3 mn Value.bool fG2)
                case atStart => exact ⟨lk, rfl, hrg13, hP13, hIm13, hGm13⟩
                case round =>
                  clear hrg13 hP13 hIm13 hGm13
                  obtain ⟨left, hleft, hrg, hP14, hIm14, hGm14⟩ := hrel
                  go_wp2_with (at_next; refine wpList_next_raw _ rfl _ rfl 56 mk r lk left rfl hrg ?_ ?_)
                  · intro hl0
                    have hKm14 : MapF wr mk Value.bool fK' := ⟨lk, hrg.map, HK2.out, HK3.out⟩
                    clear hrg hIm14 hl0 hleft
                    go_wp2_with fail
                    go_roundg (gkO - 1)
                    case measure => have := HG2.out; have := HJ.out; omega
                    case rel => exact ⟨j + 1, E', G', fK', fG2, by have := HG2.out; have := HJ.out; omega, by go_num, by omega, hP14, hKm14, hGm14, HI8.out⟩
                  · rintro ⟨p1, p2⟩ w14 left' hp hpl hrg15 hlt hmem hT15 hs15 hen
                    obtain ⟨c, bb, hcu, hfc, he⟩ := HK2.out _ hpl
                    cases he
                    have hP15 := hP14.ranged hrg hT15 hrmb hrw
                    have hIm15 := hIm14.turned hT15 (hIm14.range_ne hrg)
                    have hGm15 := hGm14.turned hT15 (hGm14.range_ne hrg)
                    obtain ⟨g, hg1, hg2, hg3⟩ := gone_range HI8.out HIN.out hP15.dis hfc
                    have DG : Hid (∀ W, Kept w14 W → Calls Try.prog 41 #[.pointer (some ⟨t, 0, none⟩), .int .u16 c] W fun e w' => e = .returned (.bool g) ∧ Kept W w') := Lib.hid (fun W hk => by rw [← hg1]; exact gone_any (hP15.kept hk).tab hcu)
                    have HLT := Lib.hid hlt
                    have HLE := Lib.hid hleft
                    have HMEM := Lib.hid hmem
                    have hrq : Hid (∀ W, Kept w14 W → RangeAt W Try.prog 56 mk r lk left' ∧ TabP w W t mb room E' G' ∧ MapF W mi Value.bool fI ∧ MapF W mn Value.bool fG2) := Lib.hid (fun W hk => ⟨hrg15.turned hk (fun h => h) (fun h => h), hP15.kept hk, hIm15.turned hk (fun h => h), hGm15.turned hk (fun h => h)⟩)
                    have HCU := Lib.hid hcu
                    clear hp hpl hrg15 hlt hmem hT15 hs15 hleft hrg hP14 hIm14 hGm14 hP15 hIm15 hGm15 hg1 hfc hcu HMEM
                    rcases g with _ | _
                    · obtain ⟨hf1, hf2⟩ := hg2 rfl
                      have HHELD : Hid (∀ W, Kept w14 W → (Instr.lookup 84 (.map (some mi)) (.int .u16 c) false).run Try.prog W = .ok (.bool true) W ∧ (Instr.lookup 84 (.map (some mn)) (.int .u16 c) false).run Try.prog W = .ok (.bool false) W) := Lib.hid (fun W hk => by
                        obtain ⟨_, _, m1, m2⟩ := hrq.out W hk
                        have l1 := m1.look_some (T := 84) (e := 4) Try.underlying84 HCU.out hf1  false
                        have l2 := m2.look_none (T := 84) (e := 4) (z := .bool false) Try.underlying84 HCU.out hf2 (by kernel_rfl) false
                        simp only [Bool.false_eq_true, if_false] at l1 l2
                        exact ⟨l1, l2⟩)
                      clear hg2 hg3 hf1 hf2
                      go_wp2_with fail
                      refine wp_region_held_drew (S := fun W => (Instr.lookup 84 (.map (some mi)) (.int .u16 c) false).run Try.prog W = .ok (.bool true) W ∧ (Instr.lookup 84 (.map (some mn)) (.int .u16 c) false).run Try.prog W = .ok (.bool false) W) (by kernel_rfl) (HHELD.out _ (Turned.refl _ w14).drew) (fun hHeld => ?_)
                      refine held_take 0 138 (v := ?_) ⟨_, rfl, rfl, by rfl, ?_⟩ (by kernel_rfl) (by kernel_rfl) (by kernel_rfl) (fun _ _ _ h => h) hHeld ?_
                      rotate_left
                      · (intro w hSw; (try dsimp only at hSw); go_simp; try with_reducible rfl)
                      simp only [Act.put, List.setIfInBounds_toArray, List.set_cons_zero, List.set_cons_succ]
                      refine held_take 1 139 (v := ?_) ⟨_, rfl, rfl, by rfl, ?_⟩ (by kernel_rfl) (by kernel_rfl) (by kernel_rfl) (fun _ _ _ h => h) hHeld ?_
                      rotate_left
                      · (intro w hSw; (try dsimp only at hSw); go_simp; try with_reducible rfl)
                      simp only [Act.put, List.setIfInBounds_toArray, List.set_cons_zero, List.set_cons_succ]
                      refine held_take 2 140 (v := ?_) ⟨_, rfl, rfl, by rfl, ?_⟩ (by kernel_rfl) (by kernel_rfl) (by kernel_rfl) (fun _ _ _ h => h) hHeld ?_
                      rotate_left
                      · (intro w hSw; (try dsimp only at hSw); go_simp; try with_reducible rfl)
                      simp only [Act.put, List.setIfInBounds_toArray, List.set_cons_zero, List.set_cons_succ]
                      refine held_take 3 141 (v := ?_) ⟨_, rfl, rfl, by rfl, ?_⟩ (by kernel_rfl) (by kernel_rfl) (by kernel_rfl) (fun _ _ _ h => h) hHeld ?_
                      rotate_left
                      · (intro w hSw; (try dsimp only at hSw); go_simp; try with_reducible rfl)
                      simp only [Act.put, List.setIfInBounds_toArray, List.set_cons_zero, List.set_cons_succ]
                      refine held_take 4 142 (v := ?_) ⟨_, rfl, rfl, by rfl, ?_⟩ (by kernel_rfl) (by kernel_rfl) (by kernel_rfl) (fun _ _ _ h => h) hHeld ?_
                      rotate_left
                      · (intro w hSw; (try dsimp only at hSw); go_simp; try with_reducible rfl)
                      simp only [Act.put, List.setIfInBounds_toArray, List.set_cons_zero, List.set_cons_succ]
                      refine wpAnyH_ready (rs := [5]) (by kernel_rfl) (by simp) ?_
                      refine AllReadyH.cons (o := _) rfl (fun K hK => ?_) AllReadyH.nil
                      go_simp
                      go_at_call 41
                      refine (DG.out _ ((Turned.refl _ w14).drew)).mono ?_
                      rintro e w20 ⟨rfl, hq20⟩
                      go_wp2_with fail
                      have hk20 : Kept w14 w20 := ((Turned.refl _ w14).drew).to hq20
                      refine hK.out _ _ (HHELD.out _ hk20) (fun hHeld => ?_)
                      clear hK K
                      refine held_take 6 144 (v := ?_) ⟨_, rfl, rfl, by rfl, ?_⟩ (by kernel_rfl) (by kernel_rfl) (by kernel_rfl) (fun _ _ _ h => h) hHeld ?_
                      rotate_left
                      · (intro w hSw; (try dsimp only at hSw); go_simp; try with_reducible rfl)
                      simp only [Act.put, List.setIfInBounds_toArray, List.set_cons_zero, List.set_cons_succ]
                      refine held_take 7 145 (v := ?_) ⟨_, rfl, rfl, by rfl, ?_⟩ (by kernel_rfl) (by kernel_rfl) (by kernel_rfl) (fun _ _ _ h => h) hHeld ?_
                      rotate_left
                      · (intro w hSw; (try dsimp only at hSw); go_simp; try with_reducible rfl)
                      simp only [Act.put, List.setIfInBounds_toArray, List.set_cons_zero, List.set_cons_succ]
                      refine held_take 8 146 (v := ?_) ⟨_, rfl, rfl, by rfl, ?_⟩ (by kernel_rfl) (by kernel_rfl) (by kernel_rfl) (fun _ _ _ h => h) hHeld ?_
                      rotate_left
                      · (intro w hSw; (try dsimp only at hSw); go_simp; try with_reducible rfl)
                      simp only [Act.put, List.setIfInBounds_toArray, List.set_cons_zero, List.set_cons_succ]
                      refine held_take 9 147 (v := ?_) ⟨_, rfl, rfl, by rfl, ?_⟩ (by kernel_rfl) (by kernel_rfl) (by kernel_rfl) (fun _ _ _ h => h) hHeld ?_
                      rotate_left
                      · (intro w hSw; (try dsimp only at hSw); go_simp; try with_reducible rfl)
                      simp only [Act.put, List.setIfInBounds_toArray, List.set_cons_zero, List.set_cons_succ]
                      refine held_take 10 148 (v := ?_) ⟨_, rfl, rfl, by rfl, ?_⟩ (by kernel_rfl) (by kernel_rfl) (by kernel_rfl) (fun _ _ _ h => h) hHeld ?_
                      rotate_left
                      · (intro w hSw; (try dsimp only at hSw); go_simp; try with_reducible rfl)
                      simp only [Act.put, List.setIfInBounds_toArray, List.set_cons_zero, List.set_cons_succ]
                      refine held_take 11 149 (v := ?_) ⟨_, rfl, rfl, by rfl, ?_⟩ (by kernel_rfl) (by kernel_rfl) (by kernel_rfl) (fun _ _ _ h => h) hHeld ?_
                      rotate_left
                      · (intro w hSw; (try dsimp only at hSw); go_simp; try with_reducible rfl)
                      simp only [Act.put, List.setIfInBounds_toArray, List.set_cons_zero, List.set_cons_succ]
                      refine held_take 12 150 (v := ?_) ⟨_, rfl, rfl, by rfl, ?_⟩ (by kernel_rfl) (by kernel_rfl) (by kernel_rfl) (fun _ _ _ h => h) hHeld ?_
                      rotate_left
                      · (intro w hSw; (try dsimp only at hSw); go_simp; try with_reducible rfl)
                      simp only [Act.put, List.setIfInBounds_toArray, List.set_cons_zero, List.set_cons_succ]
                      refine wpAnyH_ready (rs := [13]) (by kernel_rfl) (by simp) ?_
                      refine AllReadyH.cons (o := _) rfl (fun K hK => ?_) AllReadyH.nil
                      go_simp
                      go_at_call 41
                      refine (DG.out _ hk20).mono ?_
                      rintro e w21 ⟨rfl, hq21⟩
                      go_wp2_with fail
                      have hk21 := hk20.to hq21
                      refine hK.out _ _ (HHELD.out _ hk21) (fun hHeld => ?_)
                      clear hK K
                      refine held_take 14 152 (v := ?_) ⟨_, rfl, rfl, by rfl, ?_⟩ (by kernel_rfl) (by kernel_rfl) (by kernel_rfl) (fun _ _ _ h => h) hHeld ?_
                      rotate_left
                      · (intro w hSw; (try dsimp only at hSw); go_simp; try with_reducible rfl)
                      simp only [Act.put, List.setIfInBounds_toArray, List.set_cons_zero, List.set_cons_succ]
                      refine held_take 15 153 (v := ?_) ⟨_, rfl, rfl, by rfl, ?_⟩ (by kernel_rfl) (by kernel_rfl) (by kernel_rfl) (fun _ _ _ h => h) hHeld ?_
                      rotate_left
                      · (intro w hSw; (try dsimp only at hSw); go_simp; try with_reducible rfl)
                      simp only [Act.put, List.setIfInBounds_toArray, List.set_cons_zero, List.set_cons_succ]
                      refine wpAnyH_done (by kernel_rfl) ?_ _
                      go_wp2_with fail
                      go_roundg left'.length
                      case measure => have := HLT.out; have := HLE.out; omega
                      case rel => exact ⟨left', rfl, hrq.out _ hk21⟩
                    · obtain ⟨hf1, hf2⟩ := hg3 rfl
                      have HHELD : Hid (∀ W, Kept w14 W → (Instr.lookup 84 (.map (some mi)) (.int .u16 c) false).run Try.prog W = .ok (.bool false) W ∧ (Instr.lookup 84 (.map (some mn)) (.int .u16 c) false).run Try.prog W = .ok (.bool true) W) := Lib.hid (fun W hk => by
                        obtain ⟨_, _, m1, m2⟩ := hrq.out W hk
                        have l1 := m1.look_none (T := 84) (e := 4) (z := .bool false) Try.underlying84 HCU.out hf1 (by kernel_rfl) false
                        have l2 := m2.look_some (T := 84) (e := 4) Try.underlying84 HCU.out hf2  false
                        simp only [Bool.false_eq_true, if_false] at l1 l2
                        exact ⟨l1, l2⟩)
                      clear hg2 hg3 hf1 hf2
                      go_wp2_with fail
                      refine wp_region_held_drew (S := fun W => (Instr.lookup 84 (.map (some mi)) (.int .u16 c) false).run Try.prog W = .ok (.bool false) W ∧ (Instr.lookup 84 (.map (some mn)) (.int .u16 c) false).run Try.prog W = .ok (.bool true) W) (by kernel_rfl) (HHELD.out _ (Turned.refl _ w14).drew) (fun hHeld => ?_)
                      refine held_take 0 138 (v := ?_) ⟨_, rfl, rfl, by rfl, ?_⟩ (by kernel_rfl) (by kernel_rfl) (by kernel_rfl) (fun _ _ _ h => h) hHeld ?_
                      rotate_left
                      · (intro w hSw; (try dsimp only at hSw); go_simp; try with_reducible rfl)
                      simp only [Act.put, List.setIfInBounds_toArray, List.set_cons_zero, List.set_cons_succ]
                      refine held_take 1 139 (v := ?_) ⟨_, rfl, rfl, by rfl, ?_⟩ (by kernel_rfl) (by kernel_rfl) (by kernel_rfl) (fun _ _ _ h => h) hHeld ?_
                      rotate_left
                      · (intro w hSw; (try dsimp only at hSw); go_simp; try with_reducible rfl)
                      simp only [Act.put, List.setIfInBounds_toArray, List.set_cons_zero, List.set_cons_succ]
                      refine held_take 2 140 (v := ?_) ⟨_, rfl, rfl, by rfl, ?_⟩ (by kernel_rfl) (by kernel_rfl) (by kernel_rfl) (fun _ _ _ h => h) hHeld ?_
                      rotate_left
                      · (intro w hSw; (try dsimp only at hSw); go_simp; try with_reducible rfl)
                      simp only [Act.put, List.setIfInBounds_toArray, List.set_cons_zero, List.set_cons_succ]
                      refine held_take 3 141 (v := ?_) ⟨_, rfl, rfl, by rfl, ?_⟩ (by kernel_rfl) (by kernel_rfl) (by kernel_rfl) (fun _ _ _ h => h) hHeld ?_
                      rotate_left
                      · (intro w hSw; (try dsimp only at hSw); go_simp; try with_reducible rfl)
                      simp only [Act.put, List.setIfInBounds_toArray, List.set_cons_zero, List.set_cons_succ]
                      refine held_take 4 142 (v := ?_) ⟨_, rfl, rfl, by rfl, ?_⟩ (by kernel_rfl) (by kernel_rfl) (by kernel_rfl) (fun _ _ _ h => h) hHeld ?_
                      rotate_left
                      · (intro w hSw; (try dsimp only at hSw); go_simp; try with_reducible rfl)
                      simp only [Act.put, List.setIfInBounds_toArray, List.set_cons_zero, List.set_cons_succ]
                      refine wpAnyH_ready (rs := [5]) (by kernel_rfl) (by simp) ?_
                      refine AllReadyH.cons (o := _) rfl (fun K hK => ?_) AllReadyH.nil
                      go_simp
                      go_at_call 41
                      refine (DG.out _ ((Turned.refl _ w14).drew)).mono ?_
                      rintro e w20 ⟨rfl, hq20⟩
                      go_wp2_with fail
                      have hk20 : Kept w14 w20 := ((Turned.refl _ w14).drew).to hq20
                      refine hK.out _ _ (HHELD.out _ hk20) (fun hHeld => ?_)
                      clear hK K
                      refine held_take 6 144 (v := ?_) ⟨_, rfl, rfl, by rfl, ?_⟩ (by kernel_rfl) (by kernel_rfl) (by kernel_rfl) (fun _ _ _ h => h) hHeld ?_
                      rotate_left
                      · (intro w hSw; (try dsimp only at hSw); go_simp; try with_reducible rfl)
                      simp only [Act.put, List.setIfInBounds_toArray, List.set_cons_zero, List.set_cons_succ]
                      refine held_take 7 145 (v := ?_) ⟨_, rfl, rfl, by rfl, ?_⟩ (by kernel_rfl) (by kernel_rfl) (by kernel_rfl) (fun _ _ _ h => h) hHeld ?_
                      rotate_left
                      · (intro w hSw; (try dsimp only at hSw); go_simp; try with_reducible rfl)
                      simp only [Act.put, List.setIfInBounds_toArray, List.set_cons_zero, List.set_cons_succ]
                      refine held_take 8 146 (v := ?_) ⟨_, rfl, rfl, by rfl, ?_⟩ (by kernel_rfl) (by kernel_rfl) (by kernel_rfl) (fun _ _ _ h => h) hHeld ?_
                      rotate_left
                      · (intro w hSw; (try dsimp only at hSw); go_simp; try with_reducible rfl)
                      simp only [Act.put, List.setIfInBounds_toArray, List.set_cons_zero, List.set_cons_succ]
                      refine held_take 9 147 (v := ?_) ⟨_, rfl, rfl, by rfl, ?_⟩ (by kernel_rfl) (by kernel_rfl) (by kernel_rfl) (fun _ _ _ h => h) hHeld ?_
                      rotate_left
                      · (intro w hSw; (try dsimp only at hSw); go_simp; try with_reducible rfl)
                      simp only [Act.put, List.setIfInBounds_toArray, List.set_cons_zero, List.set_cons_succ]
                      refine held_take 10 148 (v := ?_) ⟨_, rfl, rfl, by rfl, ?_⟩ (by kernel_rfl) (by kernel_rfl) (by kernel_rfl) (fun _ _ _ h => h) hHeld ?_
                      rotate_left
                      · (intro w hSw; (try dsimp only at hSw); go_simp; try with_reducible rfl)
                      simp only [Act.put, List.setIfInBounds_toArray, List.set_cons_zero, List.set_cons_succ]
                      refine held_take 11 149 (v := ?_) ⟨_, rfl, rfl, by rfl, ?_⟩ (by kernel_rfl) (by kernel_rfl) (by kernel_rfl) (fun _ _ _ h => h) hHeld ?_
                      rotate_left
                      · (intro w hSw; (try dsimp only at hSw); go_simp; try with_reducible rfl)
                      simp only [Act.put, List.setIfInBounds_toArray, List.set_cons_zero, List.set_cons_succ]
                      refine held_take 12 150 (v := ?_) ⟨_, rfl, rfl, by rfl, ?_⟩ (by kernel_rfl) (by kernel_rfl) (by kernel_rfl) (fun _ _ _ h => h) hHeld ?_
                      rotate_left
                      · (intro w hSw; (try dsimp only at hSw); go_simp; try with_reducible rfl)
                      simp only [Act.put, List.setIfInBounds_toArray, List.set_cons_zero, List.set_cons_succ]
                      refine wpAnyH_ready (rs := [13]) (by kernel_rfl) (by simp) ?_
                      refine AllReadyH.cons (o := _) rfl (fun K hK => ?_) AllReadyH.nil
                      go_simp
                      go_at_call 41
                      refine (DG.out _ hk20).mono ?_
                      rintro e w21 ⟨rfl, hq21⟩
                      go_wp2_with fail
                      have hk21 := hk20.to hq21
                      refine hK.out _ _ (HHELD.out _ hk21) (fun hHeld => ?_)
                      clear hK K
                      refine held_take 14 152 (v := ?_) ⟨_, rfl, rfl, by rfl, ?_⟩ (by kernel_rfl) (by kernel_rfl) (by kernel_rfl) (fun _ _ _ h => h) hHeld ?_
                      rotate_left
                      · (intro w hSw; (try dsimp only at hSw); go_simp; try with_reducible rfl)
                      simp only [Act.put, List.setIfInBounds_toArray, List.set_cons_zero, List.set_cons_succ]
                      refine held_take 15 153 (v := ?_) ⟨_, rfl, rfl, by rfl, ?_⟩ (by kernel_rfl) (by kernel_rfl) (by kernel_rfl) (fun _ _ _ h => h) hHeld ?_
                      rotate_left
                      · (intro w hSw; (try dsimp only at hSw); go_simp; try with_reducible rfl)
                      simp only [Act.put, List.setIfInBounds_toArray, List.set_cons_zero, List.set_cons_succ]
                      refine wpAnyH_done (by kernel_rfl) ?_ _
                      go_wp2_with fail
                      go_roundg left'.length
                      case measure => have := HLT.out; have := HLE.out; omega
                      case rel => exact ⟨left', rfl, hrq.out _ hk21⟩
      · go_wp2_with fail
        go_ret
        exact ⟨rfl, hP3.since⟩
    · have hend : l.length ≤ j ∨ (j < l.length ∧ decide ((j : Int) < 200) = false) := by
        by_cases h : j < l.length
        · refine .inr ⟨h, ?_⟩
          rw [decide_eq_false_iff_not]
          omega
        · exact .inl (by omega)
      clear hgo
      rcases hend with hend | ⟨hend, hend2⟩
      all_goals
        go_wp2_with fail
        go_ret
        exact ⟨rfl, hP.since⟩
end Go.Proofs.Ytnicfiochnkjbaa
