/- ChannelOnce: the walk. -/
import Derived.Test.YtnicfiochnkjbaaT13
namespace Go.Proofs.Ytnicfiochnkjbaa
open Go.RowKit
def intV (n : Int) : Value := .int .i64 n
def OnceI (E : List TEnt) (G : List Int) (f : Int → Option Int) : Prop := ∀ c g, f c = some g → (∃ x ∈ E, x.ch = c ∧ g ≤ x.last) ∨ c ∈ G
section
variable {room out er : Int} {x : TAct} {E E' : List TEnt} {G G' : List Int} {f : Int → Option Int}
theorem OnceI.step (h : OnceI E G f) (hst : PStep room x E G out er E' G') (hk : E.Pairwise (fun a b => a.ch ≠ b.ch)) (hlo : 1 ≤ room) : OnceI E' G' f := fun c g hf => by
  obtain ⟨h1, h2⟩ := hst.stays hk hlo
  rcases h c g hf with ⟨y, hy, hyc, hyl⟩ | hc
  · rcases h1 y hy with ⟨z, hz, hzc, hzl⟩ | hg
    · exact .inl ⟨z, hz, by rw [hzc, hyc], by omega⟩
    · exact .inr (by rw [← hyc]; exact hg)
  · exact .inr (h2 c hc)
theorem use_ok (hst : PStep room x E G out er E' G') (hk1 : x.kind = 1) (her : er = 0) : ∃ a ∈ E, a.ch = x.ch ∧ x.ch ∉ G ∧ ¬ x.seq < 0 ∧ ¬ x.seq ≤ a.last ∧ E' = dropE x.ch E ++ [a.to x.seq] ∧ G' = G := by
  rcases hst with ⟨h, _⟩ | ⟨h, _⟩ | ⟨_, _, h3, h4, h5⟩ | ⟨h, _⟩ | ⟨_, h, _⟩
  · omega
  · omega
  · rw [her] at h3
    unfold useEr at h3
    unfold useE at h4
    rcases ho : openT x.ch E G with _ | a
    · rw [ho] at h3
      exact absurd h3.symm (open_none ho).2
    · rw [ho] at h3 h4
      simp only at h3 h4
      obtain ⟨_, _, _, hng, ha, hac⟩ := open_some ho
      split at h3
      · cases h3
      · rename_i s0
        split at h3
        · cases h3
        · rename_i s1
          rw [if_neg s0, if_neg s1] at h4
          exact ⟨a, ha, hac, hng, s0, s1, h4, h5⟩
  · omega
  · exact absurd hk1 h
theorem once_use (h : OnceI E G f) (hst : PStep room x E G out er E' G') (hk : E.Pairwise (fun a b => a.ch ≠ b.ch)) (hlo : 1 ≤ room) (hk1 : x.kind = 1) (her : er = 0) :
    (∀ g, f x.ch = some g → ¬ x.seq ≤ g) ∧ ¬ x.seq < 0 ∧ OnceI E' G' (updF f x.ch x.seq) := by
  obtain ⟨a, ha, hac, hng, s0, s1, rfl, rfl⟩ := use_ok hst hk1 her
  refine ⟨fun g hf => ?_, s0, fun c g hf => ?_⟩
  · rcases h _ g hf with ⟨y, hy, hyc, hyl⟩ | hc
    · have := same_ch hk hy ha (by rw [hyc, hac])
      subst this
      omega
    · exact absurd hc hng
  · unfold updF at hf
    split at hf
    · rename_i e
      injection hf with hf
      exact .inl ⟨a.to x.seq, by simp, by rw [e]; exact hac, by rw [← hf]; exact Int.le_refl _⟩
    · exact h.step hst hk hlo c g hf
end
set_option maxRecDepth 100000 in
set_option maxHeartbeats 8000000 in
theorem once_walk (room : Int) (A : Option Addr) (cap : Nat) (l : List TAct) (w : World) (hroom : i64 room) (hl : l.length ≤ maxLen) (hr : ReadsT tactV w w.heap.size 4 A l) (hok : ∀ x ∈ l, tactOk w x) :
    Calls Try.prog 9 #[.int .i64 room, .slice A l.length cap] w fun e w' => e = .returned (.bool true) ∧ Kept w w' := by
  have AW := Lib.hid (awake19_any w)
  have HR := Lib.hid hr
  have HOK := Lib.hid hok
  have hl2 := hl
  unfold maxLen at hl2
  have hmm := @run_makeMap Try.prog
  clear hr hok hl
  go_enter Try.func9, Try.ntmps9
  go_wp2_with fail
  refine AW.out.mono ?_
  rintro e w1 ⟨rfl, hK1⟩
  clear AW
  have N := Lib.hid (new_tp hK1 hroom)
  go_wp2_with fail
  refine N.out.mono ?_
  rintro e w2 h
  rcases h with ⟨_, rfl, rfl⟩ | ⟨⟨hr1, hr2⟩, t, mb, rfl, hP2, _, _, _⟩
  · clear N
    go_wp2_with fail
    go_ret
    exact ⟨rfl, hK1⟩
  clear N hK1
  have hPm := hP2.kept ((Turned.refl (fun _ => False) w2).alloc (.map #[] 0))
  have hMm : MapF (w2.alloc (.map #[] 0)) w2.heap.size intV (fun _ => none) := MapF.new w2
  have hne : w2.heap.size ≠ mb := by have := hP2.tab.lt.2; omega
  have hgm : w.heap.size ≤ w2.heap.size := hP2.since.size
  clear hP2
  go_wp2_with fail
  clear hmm
  generalize w2.alloc (.map #[] 0) = w3 at hPm hMm ⊢
  generalize w2.heap.size = mg at hMm hne hgm ⊢
  go_loopg [7] l.length (fun gk i wr => ∃ (j : Nat) (E : List TEnt) (G : List Int) (f : Int → Option Int), j + gk = l.length ∧ i = .int .i64 j ∧ j ≤ 200 ∧ TabP w wr t mb room E G ∧ MapF wr mg intV f ∧ OnceI E G f)
  case atStart => exact ⟨0, [], [], fun _ => none, Nat.zero_add _, rfl, by omega, hPm, hMm, fun c g h => (by cases h)⟩
  case round =>
    clear hPm hMm
    obtain ⟨j, E, G, f, hj, rfl, hj2, hP, hM, hI⟩ := hrel
    have HI := Lib.hid hI
    clear hI
    by_cases hgo : j < l.length ∧ j < 200
    · obtain ⟨hjl, hj200⟩ := hgo
      obtain ⟨b, o, rfl, hbl, hcell⟩ := HR.out j hjl
      obtain ⟨x, hxe⟩ : ∃ x, x = l[j] := ⟨_, rfl⟩
      rw [← hxe] at hcell
      have hok : tactOk w x := by rw [hxe]; exact HOK.out _ (List.getElem_mem hjl)
      have HXE := Lib.hid hxe
      have hcl := fun i hi => (hP.since.cell (p := ⟨b, o + j * 4 + i, none⟩) hbl (fun h => h)).trans (hcell i hi)
      have c0 : wr.cell? ⟨b, o + j * 4, none⟩ = some (.int .i64 x.kind) := hcl 0 (by omega)
      have c1 : wr.cell? ⟨b, o + j * 4 + 1, none⟩ = some (.int .u16 x.ch) := hcl 1 (by omega)
      have c2 : wr.cell? ⟨b, o + j * 4 + 2, none⟩ = some (.slice x.A x.who.length x.c) := hcl 2 (by omega)
      have c3 : wr.cell? ⟨b, o + j * 4 + 3, none⟩ = some (.int .i64 x.seq) := hcl 3 (by omega)
      have i0 : (0 : Int) ≤ (j : Int) := by omega
      have i1 : (j : Int) < (l.length : Int) := by omega
      have d200 : decide ((j : Int) < 200) = true := by rw [decide_eq_true_eq]; omega
      have hK3 : Kept wr (wr.alloc (.cells #[.int .i64 x.kind, .int .u16 x.ch, .slice x.A x.who.length x.c, .int .i64 x.seq] 62)) := (Turned.refl _ wr).alloc _
      have hP3 := hP.kept hK3
      have hX3 : Blk (wr.alloc (.cells #[.int .i64 x.kind, .int .u16 x.ch, .slice x.A x.who.length x.c, .int .i64 x.seq] 62)) wr.heap.size 62 #[.int .i64 x.kind, .int .u16 x.ch, .slice x.A x.who.length x.c, .int .i64 x.seq] := Blk.new wr _ _
      have hM3 := hM.turned hK3 (fun h => h)
      clear hM
      clear hxe hcell hcl hP
      go_wp2_with fail
      refine (large_tact hP3.since hok).mono ?_
      rintro e wx ⟨rfl, rfl⟩
      generalize wr.alloc (.cells #[.int .i64 x.kind, .int .u16 x.ch, .slice x.A x.who.length x.c, .int .i64 x.seq] 62) = w3 at hP3 hX3 hM3 ⊢
      generalize wr.heap.size = gx at hX3 ⊢
      clear c0 c1 c2 c3 hK3
      rcases hla : largeR 100 x.who with _ | _
      · have hsm := smallT_of hla
        clear hla
        have x0 : w3.cell? ⟨gx, 0, none⟩ = some (.int .i64 x.kind) := hX3.cell 0
        have x1 : w3.cell? ⟨gx, 1, none⟩ = some (.int .u16 x.ch) := hX3.cell 1
        have x2 : w3.cell? ⟨gx, 2, none⟩ = some (.slice x.A x.who.length x.c) := hX3.cell 2
        have x3 : w3.cell? ⟨gx, 3, none⟩ = some (.int .i64 x.seq) := hX3.cell 3
        have DP := Lib.hid (play_act hP3 hok hsm)
        go_wp2_with fail
        refine DP.out.mono ?_
        rintro e w5 ⟨out, er, E', G', rfl, hP5, hT5, hst, hown5⟩
        have hX5 := hX3.turned hT5 (TFoot.not hX3 (by decide) (by decide) (hP3.tab.gone.blk_ne hX3))
        have y0 : w5.cell? ⟨gx, 0, none⟩ = some (.int .i64 x.kind) := hX5.cell 0
        have y1 : w5.cell? ⟨gx, 1, none⟩ = some (.int .u16 x.ch) := hX5.cell 1
        have y3 : w5.cell? ⟨gx, 3, none⟩ = some (.int .i64 x.seq) := hX5.cell 3
        have HST := Lib.hid hst
        have HOWN := Lib.hid hown5
        have HKY := Lib.hid hP3.keys
        have hM5 := hM3.turned hT5 (hM3.tfoot hne)
        clear DP hst hown5 hT5 hX3 hM3 x0 x1 x2 x3
        by_cases hk1 : x.kind = 1
        · have b1 : (x.kind != 1) = false := by simp [hk1]
          by_cases her : er = 0
          · have be : (er != 0) = false := by simp [her]
            obtain ⟨u1, u2, u3⟩ := once_use HI.out HST.out HKY.out hr1 hk1 her
            have HU3 := Lib.hid u3
            have ds : decide (x.seq < 0) = false := by simpa using u2
            obtain ⟨w6, hup, hM6, hT6⟩ := hM5.put (T := 81) (e := 2) Try.underlying81 hok.ch x.seq
            have hP6 := hP5.mapped hM5 hT6 hne hgm
            have HP6 := Lib.hid hP6
            have HM6 := Lib.hid hM6
            have hup' : (Instr.mapUpdate 81 (.map (some mg)) (.int .u16 x.ch) (.int .i64 x.seq)).run Try.prog w5 = .ok () w6 := hup
            rcases hf : f x.ch with _ | g
            · have hlk := hM5.look_none (T := 81) (e := 2) (z := .int .i64 0) Try.underlying81 hok.ch hf (by kernel_rfl) true
              simp only [if_true] at hlk
              clear hk1 her u1 u2 u3 hup hM6 hT6 hP6 hf hP5 hP3
              go_wp2_with fail
              go_roundg (gk - 1)
              case measure => omega
              case rel => exact ⟨j + 1, _, _, _, by omega, by go_num, by omega, HP6.out, HM6.out, HU3.out⟩
            · have hlk := hM5.look_some (T := 81) (e := 2) Try.underlying81 hok.ch hf true
              simp only [if_true, intV] at hlk
              have dg : decide (x.seq ≤ g) = false := by simpa using u1 g hf
              clear hk1 her u1 u2 u3 hup hM6 hT6 hP6 hf hP5 hP3
              go_wp2_with fail
              go_roundg (gk - 1)
              case measure => omega
              case rel => exact ⟨j + 1, _, _, _, by omega, by go_num, by omega, HP6.out, HM6.out, HU3.out⟩
          · have be : (er != 0) = true := by rw [bne_iff_ne]; exact her
            have HI2 := Lib.hid (HI.out.step HST.out HKY.out hr1)
            clear hk1 her hP3
            go_wp2_with fail
            go_roundg (gk - 1)
            case measure => omega
            case rel => exact ⟨j + 1, _, _, _, by omega, by go_num, by omega, hP5, hM5, HI2.out⟩
        · have b1 : (x.kind != 1) = true := by rw [bne_iff_ne]; exact hk1
          have HI2 := Lib.hid (HI.out.step HST.out HKY.out hr1)
          clear hk1 hP3
          go_wp2_with fail
          go_roundg (gk - 1)
          case measure => omega
          case rel => exact ⟨j + 1, _, _, _, by omega, by go_num, by omega, hP5, hM5, HI2.out⟩
      · go_wp2_with fail
        go_ret
        exact ⟨rfl, hP3.since⟩
    · have hend : l.length ≤ j ∨ (j < l.length ∧ decide ((j : Int) < 200) = false) := by
        by_cases h : j < l.length
        · refine .inr ⟨h, ?_⟩
          rw [decide_eq_false_iff_not]
          omega
        · exact .inl (by omega)
      clear hgo
      rcases hend with hend | ⟨hend, hend2⟩
      all_goals
        go_wp2_with fail
        go_ret
        exact ⟨rfl, hP.since⟩
end Go.Proofs.Ytnicfiochnkjbaa
