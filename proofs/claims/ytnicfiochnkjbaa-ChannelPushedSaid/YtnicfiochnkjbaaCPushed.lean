/- ChannelPushed: the walk. -/
import Derived.Test.YtnicfiochnkjbaaT13
namespace Go.Proofs.Ytnicfiochnkjbaa
open Go.RowKit
def intV (n : Int) : Value := .int .i64 n
/-- The channels that are open, by the time of their last use. -/
structure PushI (E : List TEnt) (f : Int → Option Int) (j : Int) : Prop where
  has : ∀ x ∈ E, ∃ k, f x.ch = some k ∧ 0 ≤ k ∧ k < j
  rise : E.Pairwise (fun a b => ∀ k m, f a.ch = some k → f b.ch = some m → k < m)
section
variable {room out er j : Int} {x : TAct} {E E' : List TEnt} {G G' : List Int} {f : Int → Option Int}
theorem PushI.sub (h : PushI E f j) (hs : E'.Sublist E) : PushI E' f (j + 1) :=
  ⟨fun z hz => by obtain ⟨k, h1, h2, h3⟩ := h.has z (hs.subset hz); exact ⟨k, h1, h2, by omega⟩, h.rise.sublist hs⟩
theorem PushI.add (h : PushI E f j) (hj : 0 ≤ j) (hs : E'.Sublist E) {y : TEnt} (hne : ∀ z ∈ E', z.ch ≠ y.ch) : PushI (E' ++ [y]) (updF f y.ch j) (j + 1) := by
  have hu : ∀ z ∈ E', updF f y.ch j z.ch = f z.ch := fun z hz => by unfold updF; rw [if_neg (hne z hz)]
  have hy : updF f y.ch j y.ch = some j := by unfold updF; rw [if_pos rfl]
  refine ⟨fun z hz => ?_, ?_⟩
  · rcases List.mem_append.1 hz with hz | hz
    · obtain ⟨k, h1, h2, h3⟩ := h.has z (hs.subset hz)
      exact ⟨k, by rw [hu z hz]; exact h1, h2, by omega⟩
    · rw [List.mem_singleton.1 hz]
      exact ⟨j, hy, hj, by omega⟩
  · rw [List.pairwise_append]
    refine ⟨(h.rise.sublist hs).imp_of_mem (fun {a b} ha hb hr k m h1 h2 => ?_), List.pairwise_singleton _ _, fun a ha b hb k m h1 h2 => ?_⟩
    · rw [hu a ha] at h1
      rw [hu b hb] at h2
      exact hr k m h1 h2
    · rw [List.mem_singleton.1 hb, hy] at h2
      rw [hu a ha] at h1
      injection h2 with h2
      obtain ⟨k', h3, _, h4⟩ := h.has a (hs.subset ha)
      rw [h1] at h3
      injection h3 with h3
      omega
theorem cut_sub : (cutT room E).Sublist E := by
  unfold cutT
  split
  · exact List.tail_sublist _
  · exact List.Sublist.refl _
/-- What an act does to the times. -/
theorem push_step (h : PushI E f j) (hj : 0 ≤ j) (hst : PStep room x E G out er E' G') (hk : E.Pairwise (fun a b => a.ch ≠ b.ch)) :
    ((er = 0 ∧ (x.kind = 0 ∨ x.kind = 1)) → PushI E' (updF f x.ch j) (j + 1)) ∧ (¬ (er = 0 ∧ (x.kind = 0 ∨ x.kind = 1)) → PushI E' f (j + 1)) := by
  have hst' := hst
  rcases hst with ⟨hk0, hne, _, he, rfl, _⟩ | ⟨hk0, ho, _, he, ⟨y, hy1, hy2, hy3, rfl⟩, _⟩ | ⟨hk1, _, he, rfl, rfl⟩ | ⟨hk2, _, _, rfl, _⟩ | ⟨h0, h1, h2, _, _, rfl, _⟩
  · exact ⟨fun h' => absurd h'.1 (by rw [he]; exact hne), fun _ => h.sub (List.Sublist.refl _)⟩
  · refine ⟨fun _ => ?_, fun h' => absurd ⟨he, .inl hk0⟩ h'⟩
    rw [← hy1]
    refine h.add hj cut_sub (fun z hz => ?_)
    rw [hy1]
    exact found_none_ne (openEr_zero ho).2.2.1 z (cut_mem hz)
  · refine ⟨fun h' => ?_, fun h' => ?_⟩
    · obtain ⟨a, ha, hac, _, _, _, hE', _⟩ := use_ok hst' hk1 h'.1
      rw [hE']
      have hac' : (a.to x.seq).ch = x.ch := hac
      rw [← hac']
      refine h.add hj ?_ (fun z hz => ?_)
      · rw [hac']; exact dropE_sub
      · rw [hac'] at hz ⊢
        exact dropE_ne hk z hz
    · have hne : er ≠ 0 := fun e => h' ⟨e, .inr hk1⟩
      have : useE x.ch x.seq E G' = E := by
        rw [he] at hne
        unfold useEr at hne
        unfold useE
        rcases ho : openT x.ch E G' with _ | a
        · rfl
        · rw [ho] at hne
          simp only at hne ⊢
          split
          · rfl
          · rename_i s0
            split
            · rfl
            · rename_i s1
              rw [if_neg s0, if_neg s1] at hne
              exact absurd rfl hne
      rw [this]
      exact h.sub (List.Sublist.refl _)
  · refine ⟨fun h' => by omega, fun _ => ?_⟩
    split
    · exact h.sub dropE_sub
    · exact h.sub (List.Sublist.refl _)
  · exact ⟨fun h' => by omega, fun _ => h.sub (List.Sublist.refl _)⟩
/-- What is told of who is gone. -/
theorem push_out (h : PushI E f j) (hst : PStep room x E G out er E' G') (hlo : 1 ≤ room) (hlen : (E.length : Int) ≤ room) (hsp : ∀ x ∈ E, x.ch / 8192 = 2) :
    (out ≠ 0 ∧ x.kind = 0 ∧ er = 0 ∧ (E.length : Int) = room ∧ (∃ a ∈ E, out = a.ch) ∧ ∃ k0, f out = some k0 ∧ ∀ z ∈ E, ∀ k, f z.ch = some k → k0 ≤ k) ∨ (out = 0 ∧ ¬ (x.kind = 0 ∧ er = 0 ∧ room ≤ (E.length : Int))) := by
  rcases hst with ⟨hk0, hne, ho, he, _, _⟩ | ⟨hk0, _, ho, he, _, _⟩ | ⟨hk1, ho, _⟩ | ⟨hk2, ho, _⟩ | ⟨h0, h1, h2, ho, _⟩
  · exact .inr ⟨ho, fun h' => hne (by rw [← he]; exact h'.2.1)⟩
  · unfold outT at ho
    by_cases hf : room ≤ (E.length : Int)
    · rw [if_pos hf] at ho
      left
      cases E with
      | nil => simp at hf; omega
      | cons a E1 =>
        have ho' : out = a.ch := ho
        have ha := hsp a (by simp)
        obtain ⟨k0, hk, _, _⟩ := h.has a (by simp)
        refine ⟨by rw [ho']; omega, hk0, he, by omega, ⟨a, by simp, ho'⟩, k0, by rw [ho']; exact hk, fun z hz k hzk => ?_⟩
        rcases List.mem_cons.1 hz with rfl | hz
        · rw [hk] at hzk
          injection hzk with hzk
          omega
        · have := (List.pairwise_cons.1 h.rise).1 z hz k0 k hk hzk
          omega
    · rw [if_neg hf] at ho
      exact .inr ⟨ho, fun h' => hf h'.2.2⟩
  · exact .inr ⟨ho, fun h' => by omega⟩
  · exact .inr ⟨ho, fun h' => by omega⟩
  · exact .inr ⟨ho, fun h' => h0 h'.1⟩
end
set_option maxRecDepth 100000 in
set_option maxHeartbeats 8000000 in
theorem pushed_walk (room : Int) (A : Option Addr) (cap : Nat) (l : List TAct) (w : World) (hroom : i64 room) (hl : l.length ≤ maxLen) (hr : ReadsT tactV w w.heap.size 4 A l) (hok : ∀ x ∈ l, tactOk w x) :
    Calls Try.prog 11 #[.int .i64 room, .slice A l.length cap] w fun e w' => e = .returned (.bool true) ∧ Kept w w' := by
  have AW := Lib.hid (awake19_any w)
  have HR := Lib.hid hr
  have HOK := Lib.hid hok
  have hl2 := hl
  unfold maxLen at hl2
  have hmm := @run_makeMap Try.prog
  clear hr hok hl
  go_enter Try.func11, Try.ntmps11
  go_wp2_with fail
  refine AW.out.mono ?_
  rintro e w1 ⟨rfl, hK1⟩
  clear AW
  have N := Lib.hid (new_tp hK1 hroom)
  go_wp2_with fail
  refine N.out.mono ?_
  rintro e w2 h
  rcases h with ⟨_, rfl, rfl⟩ | ⟨⟨hr1, hr2⟩, t, mb, rfl, hP2, _, _, _⟩
  · clear N
    go_wp2_with fail
    go_ret
    exact ⟨rfl, hK1⟩
  clear N hK1
  have hPm := hP2.kept ((Turned.refl (fun _ => False) w2).alloc (.map #[] 0))
  have hMm : MapF (w2.alloc (.map #[] 0)) w2.heap.size intV (fun _ => none) := MapF.new w2
  have hne : w2.heap.size ≠ mb := by have := hP2.tab.lt.2; omega
  have hgm : w.heap.size ≤ w2.heap.size := hP2.since.size
  clear hP2
  go_wp2_with fail
  clear hmm
  generalize w2.alloc (.map #[] 0) = w3 at hPm hMm ⊢
  generalize w2.heap.size = mg at hMm hne hgm ⊢
  go_loopg [7] l.length (fun gk i wr => ∃ (j : Nat) (E : List TEnt) (G : List Int) (f : Int → Option Int), j + gk = l.length ∧ i = .int .i64 j ∧ j ≤ 200 ∧ TabP w wr t mb room E G ∧ MapF wr mg intV f ∧ PushI E f (j : Int))
  case atStart => exact ⟨0, [], [], fun _ => none, Nat.zero_add _, rfl, by omega, hPm, hMm, ⟨fun x hx => (by cases hx), List.Pairwise.nil⟩⟩
  case round =>
    clear hPm hMm
    obtain ⟨j, E, G, f, hj, rfl, hj2, hP, hM, hI⟩ := hrel
    have HI := Lib.hid hI
    clear hI
    by_cases hgo : j < l.length ∧ j < 200
    · obtain ⟨hjl, hj200⟩ := hgo
      obtain ⟨b, o, rfl, hbl, hcell⟩ := HR.out j hjl
      obtain ⟨x, hxe⟩ : ∃ x, x = l[j] := ⟨_, rfl⟩
      rw [← hxe] at hcell
      have hok : tactOk w x := by rw [hxe]; exact HOK.out _ (List.getElem_mem hjl)
      have HXE := Lib.hid hxe
      have hcl := fun i hi => (hP.since.cell (p := ⟨b, o + j * 4 + i, none⟩) hbl (fun h => h)).trans (hcell i hi)
      have c0 : wr.cell? ⟨b, o + j * 4, none⟩ = some (.int .i64 x.kind) := hcl 0 (by omega)
      have c1 : wr.cell? ⟨b, o + j * 4 + 1, none⟩ = some (.int .u16 x.ch) := hcl 1 (by omega)
      have c2 : wr.cell? ⟨b, o + j * 4 + 2, none⟩ = some (.slice x.A x.who.length x.c) := hcl 2 (by omega)
      have c3 : wr.cell? ⟨b, o + j * 4 + 3, none⟩ = some (.int .i64 x.seq) := hcl 3 (by omega)
      have i0 : (0 : Int) ≤ (j : Int) := by omega
      have i1 : (j : Int) < (l.length : Int) := by omega
      have d200 : decide ((j : Int) < 200) = true := by rw [decide_eq_true_eq]; omega
      have hK3 : Kept wr (wr.alloc (.cells #[.int .i64 x.kind, .int .u16 x.ch, .slice x.A x.who.length x.c, .int .i64 x.seq] 62)) := (Turned.refl _ wr).alloc _
      have hP3 := hP.kept hK3
      have hX3 : Blk (wr.alloc (.cells #[.int .i64 x.kind, .int .u16 x.ch, .slice x.A x.who.length x.c, .int .i64 x.seq] 62)) wr.heap.size 62 #[.int .i64 x.kind, .int .u16 x.ch, .slice x.A x.who.length x.c, .int .i64 x.seq] := Blk.new wr _ _
      have hM3 := hM.turned hK3 (fun h => h)
      clear hM
      clear hxe hcell hcl hP
      go_wp2_with fail
      refine (large_tact hP3.since hok).mono ?_
      rintro e wx ⟨rfl, rfl⟩
      generalize wr.alloc (.cells #[.int .i64 x.kind, .int .u16 x.ch, .slice x.A x.who.length x.c, .int .i64 x.seq] 62) = w3 at hP3 hX3 hM3 ⊢
      generalize wr.heap.size = gx at hX3 ⊢
      clear c0 c1 c2 c3 hK3
      rcases hla : largeR 100 x.who with _ | _
      · have hsm := smallT_of hla
        clear hla
        have x0 : w3.cell? ⟨gx, 0, none⟩ = some (.int .i64 x.kind) := hX3.cell 0
        have x1 : w3.cell? ⟨gx, 1, none⟩ = some (.int .u16 x.ch) := hX3.cell 1
        have x2 : w3.cell? ⟨gx, 2, none⟩ = some (.slice x.A x.who.length x.c) := hX3.cell 2
        have x3 : w3.cell? ⟨gx, 3, none⟩ = some (.int .i64 x.seq) := hX3.cell 3
        have DA := Lib.hid (all_table hP3.tab (by have := hP3.few; omega))
        go_wp2_with fail
        refine DA.out.mono ?_
        rintro e w4 ⟨A9, c9, rfl, hO4, hK4⟩
        have hP4 := hP3.kept hK4
        have hX4 := hX3.turned hK4 (fun h => h)
        have hM4 := hM3.turned hK4 (fun h => h)
        clear DA x0 x1 x2 x3 hP3 hX3 hM3 hK4
        have x0 : w4.cell? ⟨gx, 0, none⟩ = some (.int .i64 x.kind) := hX4.cell 0
        have x1 : w4.cell? ⟨gx, 1, none⟩ = some (.int .u16 x.ch) := hX4.cell 1
        have x2 : w4.cell? ⟨gx, 2, none⟩ = some (.slice x.A x.who.length x.c) := hX4.cell 2
        have x3 : w4.cell? ⟨gx, 3, none⟩ = some (.int .i64 x.seq) := hX4.cell 3
        have DP := Lib.hid (play_act hP4 hok hsm)
        go_wp2_with fail
        refine DP.out.mono ?_
        rintro e w5 ⟨out, er, E', G', rfl, hP5, hT5, hst, hown5⟩
        have hX5 := hX4.turned hT5 (TFoot.not hX4 (by decide) (by decide) (hP4.tab.gone.blk_ne hX4))
        have hM5 := hM4.turned hT5 (hM4.tfoot hne)
        have hO5 := own_turned hO4 hT5 (fun g hg => by obtain ⟨_, cs, hb⟩ := own_blk hO4 hg; exact TFoot.not hb (by decide) (by decide) (hP4.tab.gone.blk_ne hb))
        have y0 : w5.cell? ⟨gx, 0, none⟩ = some (.int .i64 x.kind) := hX5.cell 0
        have y1 : w5.cell? ⟨gx, 1, none⟩ = some (.int .u16 x.ch) := hX5.cell 1
        obtain ⟨hs1, hs2⟩ := push_step HI.out (by omega) hst hP4.keys
        have hout := push_out HI.out hst hr1 hP4.len hP4.span
        have HOK4 := Lib.hid hP4.tab.okE
        have HHAS := Lib.hid HI.out.has
        have hfew := hP4.few
        clear DP hst hown5 hT5 hX4 hM4 hO4 x0 x1 x2 x3 hP4
        rcases hout with ⟨ho, hkd, her, hlen, ⟨ao, hao, hoa⟩, k0, hk0, hmin⟩ | ⟨rfl, hno⟩
        · have hu16 : u16 out := by rw [hoa]; exact HOK4.out ao hao
          clear hao hoa
          have bo : (out != 0) = true := by rw [bne_iff_ne]; exact ho
          have bk : (x.kind != 0) = false := by simp [hkd]
          have bl : ((E.length : Int) != room) = false := by simp [hlen]
          have q1 : decide (x.kind ≤ 1) = true := by rw [decide_eq_true_eq]; omega
          have q2 : decide (0 ≤ x.kind) = true := by rw [decide_eq_true_eq]; omega
          have HS1 := Lib.hid (hs1 ⟨her, .inl hkd⟩)
          have HMIN := Lib.hid hmin
          have HK0 := Lib.hid hk0
          have hro := ReadsT.of_one (V := chV) (fun _ => rfl) hO5
          have HRO := Lib.hid hro
          subst her
          obtain ⟨gkO, hgkO⟩ : ∃ g : Nat, g = gk := ⟨_, rfl⟩
          have HGKO : Hid (j + gkO = l.length) := by rw [hgkO]; exact Lib.hid hj
          have HG2 := Lib.hid hgkO
          have HU16 := Lib.hid hu16
          clear hs1 hs2 hkd hlen hmin hk0 ho hro hO5 hj hgkO
          go_wp2_with fail
          go_loopg [63] E.length (fun g2 v wr2 => ∃ q : Nat, q + g2 = E.length ∧ v = .int .i64 q ∧ w5 = wr2)
          case atStart => exact ⟨0, Nat.zero_add _, rfl, rfl⟩
          case round =>
            obtain ⟨q, hq, rfl, rfl⟩ := hrel
            by_cases hql : q < E.length
            · obtain ⟨b9, o9, rfl, hb9, hc9⟩ := ReadsT.cell_one (V := chV) (fun _ => rfl) HRO.out hql
              obtain ⟨z, hze⟩ : ∃ z, z = E[q] := ⟨_, rfl⟩
              have hzm : z ∈ E := by rw [hze]; exact List.getElem_mem hql
              rw [← hze] at hc9
              have hc9' : w5.cell? ⟨b9, o9 + q, none⟩ = some (.int .u16 z.ch) := hc9
              obtain ⟨kz, hkz, _, _⟩ := HHAS.out z hzm
              have l1 := hM5.look_some (T := 85) (e := 3) Try.underlying85 (HOK4.out z hzm) hkz false
              have l2 := hM5.look_some (T := 85) (e := 3) Try.underlying85 HU16.out HK0.out false
              simp only [Bool.false_eq_true, if_false, intV] at l1 l2
              have hle := HMIN.out z hzm kz hkz
              have dz : decide (kz < k0) = false := by rw [decide_eq_false_iff_not]; omega
              have i0' : (0 : Int) ≤ (q : Int) := by omega
              have i1' : (q : Int) < (E.length : Int) := by omega
              clear hze hzm hc9 hkz hle
              go_wp2_with fail
              go_roundg (gk - 1)
              case measure => omega
              case rel => exact ⟨q + 1, by omega, by go_num, rfl⟩
            · have i1' : ¬ (q : Int) < (E.length : Int) := by omega
              obtain ⟨w6, hup, hM6, hT6⟩ := hM5.put (T := 85) (e := 3) Try.underlying85 hok.ch (j : Int)
              have hP6 := hP5.mapped hM5 hT6 hne hgm
              have HP6 := Lib.hid hP6
              have HM6 := Lib.hid hM6
              have hup' : (Instr.mapUpdate 85 (.map (some mg)) (.int .u16 x.ch) (.int .i64 (j : Int))).run Try.prog w5 = .ok () w6 := hup
              clear hup hM6 hT6 hP6
              go_wp2_with fail
              go_roundg (gkO - 1)
              case measure => have := HGKO.out; have := HG2.out; omega
              case rel => exact ⟨j + 1, E', G', _, by have := HGKO.out; have := HG2.out; omega, by go_num, by omega, HP6.out, HM6.out, by have := HS1.out; simpa using this⟩
        · have hkinds : x.kind = 0 ∨ x.kind = 1 ∨ x.kind < 0 ∨ 1 < x.kind := by omega
          rcases hkinds with hkd | hkd | hkd | hkd
          · by_cases her : er = 0
            · have b0 : (x.kind == 0) = true := by simpa using hkd
              have q1 : decide (x.kind ≤ 1) = true := by rw [decide_eq_true_eq]; omega
              have q2 : decide (0 ≤ x.kind) = true := by rw [decide_eq_true_eq]; omega
              have be : (er == 0) = true := by simpa using her
              have HS1 := Lib.hid (hs1 ⟨her, by omega⟩)
              obtain ⟨w6, hup, hM6, hT6⟩ := hM5.put (T := 85) (e := 3) Try.underlying85 hok.ch (j : Int)
              have hP6 := hP5.mapped hM5 hT6 hne hgm
              have HP6 := Lib.hid hP6
              have HM6 := Lib.hid hM6
              have hup' : (Instr.mapUpdate 85 (.map (some mg)) (.int .u16 x.ch) (.int .i64 (j : Int))).run Try.prog w5 = .ok () w6 := hup
              have dl : decide (room ≤ (E.length : Int)) = false := by rw [decide_eq_false_iff_not]; intro h; exact hno ⟨hkd, her, h⟩
              clear hs1 hs2 hno hkd her hup hM6 hT6 hP6
              go_wp2_with fail
              go_roundg (gk - 1)
              case measure => omega
              case rel => exact ⟨j + 1, E', G', _, by omega, by go_num, by omega, HP6.out, HM6.out, by have := HS1.out; simpa using this⟩
            · have b0 : (x.kind == 0) = true := by simpa using hkd
              have q1 : decide (x.kind ≤ 1) = true := by rw [decide_eq_true_eq]; omega
              have q2 : decide (0 ≤ x.kind) = true := by rw [decide_eq_true_eq]; omega
              have be : (er == 0) = false := by simpa using her
              have HS2 := Lib.hid (hs2 (fun h => her h.1))
              clear hs1 hs2 hno hkd her
              go_wp2_with fail
              go_roundg (gk - 1)
              case measure => omega
              case rel => exact ⟨j + 1, E', G', f, by omega, by go_num, by omega, hP5, hM5, by have := HS2.out; simpa using this⟩
          · by_cases her : er = 0
            · have b0 : (x.kind == 0) = false := by rw [beq_eq_false_iff_ne]; omega
              have q1 : decide (x.kind ≤ 1) = true := by rw [decide_eq_true_eq]; omega
              have q2 : decide (0 ≤ x.kind) = true := by rw [decide_eq_true_eq]; omega
              have be : (er == 0) = true := by simpa using her
              have HS1 := Lib.hid (hs1 ⟨her, by omega⟩)
              obtain ⟨w6, hup, hM6, hT6⟩ := hM5.put (T := 85) (e := 3) Try.underlying85 hok.ch (j : Int)
              have hP6 := hP5.mapped hM5 hT6 hne hgm
              have HP6 := Lib.hid hP6
              have HM6 := Lib.hid hM6
              have hup' : (Instr.mapUpdate 85 (.map (some mg)) (.int .u16 x.ch) (.int .i64 (j : Int))).run Try.prog w5 = .ok () w6 := hup
              clear hs1 hs2 hno hkd her hup hM6 hT6 hP6
              go_wp2_with fail
              go_roundg (gk - 1)
              case measure => omega
              case rel => exact ⟨j + 1, E', G', _, by omega, by go_num, by omega, HP6.out, HM6.out, by have := HS1.out; simpa using this⟩
            · have b0 : (x.kind == 0) = false := by rw [beq_eq_false_iff_ne]; omega
              have q1 : decide (x.kind ≤ 1) = true := by rw [decide_eq_true_eq]; omega
              have q2 : decide (0 ≤ x.kind) = true := by rw [decide_eq_true_eq]; omega
              have be : (er == 0) = false := by simpa using her
              have HS2 := Lib.hid (hs2 (fun h => her h.1))
              clear hs1 hs2 hno hkd her
              go_wp2_with fail
              go_roundg (gk - 1)
              case measure => omega
              case rel => exact ⟨j + 1, E', G', f, by omega, by go_num, by omega, hP5, hM5, by have := HS2.out; simpa using this⟩
          · by_cases her : er = 0
            · have b0 : (x.kind == 0) = false := by rw [beq_eq_false_iff_ne]; omega
              have q1 : decide (x.kind ≤ 1) = true := by rw [decide_eq_true_eq]; omega
              have q2 : decide (0 ≤ x.kind) = false := by rw [decide_eq_false_iff_not]; omega
              have be : (er == 0) = true := by simpa using her
              have HS2 := Lib.hid (hs2 (fun h => by omega))
              clear hs1 hs2 hno hkd her
              go_wp2_with fail
              go_roundg (gk - 1)
              case measure => omega
              case rel => exact ⟨j + 1, E', G', f, by omega, by go_num, by omega, hP5, hM5, by have := HS2.out; simpa using this⟩
            · have b0 : (x.kind == 0) = false := by rw [beq_eq_false_iff_ne]; omega
              have q1 : decide (x.kind ≤ 1) = true := by rw [decide_eq_true_eq]; omega
              have q2 : decide (0 ≤ x.kind) = false := by rw [decide_eq_false_iff_not]; omega
              have be : (er == 0) = false := by simpa using her
              have HS2 := Lib.hid (hs2 (fun h => her h.1))
              clear hs1 hs2 hno hkd her
              go_wp2_with fail
              go_roundg (gk - 1)
              case measure => omega
              case rel => exact ⟨j + 1, E', G', f, by omega, by go_num, by omega, hP5, hM5, by have := HS2.out; simpa using this⟩
          · by_cases her : er = 0
            · have b0 : (x.kind == 0) = false := by rw [beq_eq_false_iff_ne]; omega
              have q1 : decide (x.kind ≤ 1) = false := by rw [decide_eq_false_iff_not]; omega
              have be : (er == 0) = true := by simpa using her
              have HS2 := Lib.hid (hs2 (fun h => by omega))
              clear hs1 hs2 hno hkd her
              go_wp2_with fail
              go_roundg (gk - 1)
              case measure => omega
              case rel => exact ⟨j + 1, E', G', f, by omega, by go_num, by omega, hP5, hM5, by have := HS2.out; simpa using this⟩
            · have b0 : (x.kind == 0) = false := by rw [beq_eq_false_iff_ne]; omega
              have q1 : decide (x.kind ≤ 1) = false := by rw [decide_eq_false_iff_not]; omega
              have be : (er == 0) = false := by simpa using her
              have HS2 := Lib.hid (hs2 (fun h => her h.1))
              clear hs1 hs2 hno hkd her
              go_wp2_with fail
              go_roundg (gk - 1)
              case measure => omega
              case rel => exact ⟨j + 1, E', G', f, by omega, by go_num, by omega, hP5, hM5, by have := HS2.out; simpa using this⟩
      · go_wp2_with fail
        go_ret
        exact ⟨rfl, hP3.since⟩
    · have hend : l.length ≤ j ∨ (j < l.length ∧ decide ((j : Int) < 200) = false) := by
        by_cases h : j < l.length
        · refine .inr ⟨h, ?_⟩
          rw [decide_eq_false_iff_not]
          omega
        · exact .inl (by omega)
      clear hgo
      rcases hend with hend | ⟨hend, hend2⟩
      all_goals
        go_wp2_with fail
        go_ret
        exact ⟨rfl, hP.since⟩
end Go.Proofs.Ytnicfiochnkjbaa
