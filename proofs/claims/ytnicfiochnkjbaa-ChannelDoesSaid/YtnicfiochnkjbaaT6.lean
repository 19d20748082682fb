/- The channels' table: Gone, get, drop. -/
import Derived.Test.YtnicfiochnkjbaaT5
namespace Go.Proofs.Ytnicfiochnkjbaa
open Go.RowKit
open Go.Maps (Keyed)
theorem key_atom : Keyed Try.prog 56 := Go.Maps.int_keyed Try.underlying56
theorem wf_u16 {a : Int} (h : u16 a) : (Lit.int .u16 a).wf = true := by
  obtain ⟨h1, h2⟩ := h
  simp only [Lit.wf]
  have : IntKind.u16.min = 0 ∧ IntKind.u16.max = 65535 := by decide
  simp [this.1, this.2]
  omega
theorem isK_atom {c : Int} (h : u16 c) : IsK Try.prog 56 (.int .u16 c) := ⟨_, Go.Maps.keyOf_int_mk Try.underlying56 (wf_u16 h)⟩
def goneB (c : Int) (G : List Int) : Bool := decide (c ∈ G)
section
variable {w w' W w3 : World} {base t mb : Nat} {room : Int} {E : List TEnt} {G : List Int}
theorem gone_mem {c : Int} : goneP c ∈ G.map goneP ↔ c ∈ G := by
  constructor
  · intro h
    obtain ⟨d, hd, he⟩ := List.mem_map.1 h
    unfold goneP at he
    injection he with he _
    injection he with _ he
    rw [← he]
    exact hd
  · intro h
    exact List.mem_map.2 ⟨c, h, rfl⟩
theorem TabIs.look (h : TabIs w base t mb room E G) {c : Int} (hc : u16 c) : (Instr.lookup 105 (.map (some mb)) (.int .u16 c) true).run Try.prog w = .ok (.tuple #[.agg #[], .bool (goneB c G)]) w := by
  by_cases hg : c ∈ G
  · have := h.gone.look_yes (e := 117) key_atom Try.underlying105 (gone_mem.2 hg) true
    unfold goneB
    rw [decide_eq_true hg]
    exact this
  · have := h.gone.look_no (e := 117) (z := .agg #[]) key_atom Try.underlying105 (by kernel_rfl) (isK_atom hc) (fun p hp e => by
      obtain ⟨d, hd, rfl⟩ := List.mem_map.1 hp
      unfold goneP at e
      injection e with _ e
      exact hg (e ▸ hd)) true
    unfold goneB
    rw [decide_eq_false hg]
    exact this
set_option maxRecDepth 100000 in
theorem gone_any (h : TabIs w base t mb room E G) {c : Int} (hc : u16 c) :
    Calls Try.prog 41 #[.pointer (some ⟨t, 0, none⟩), .int .u16 c] w fun e w' => e = .returned (.bool (goneB c G)) ∧ Kept w w' := by
  obtain ⟨v, hB, _⟩ := h.row
  have c2 : w.cell? ⟨t, 2, none⟩ = some (.map (some mb)) := hB.cell 2
  have hlk := h.look hc
  have hlt := hB.lt
  have HK : Hid (Kept w (w.alloc (.cells #[] 117))) := Lib.hid ((Turned.refl _ w).alloc _)
  clear hB h
  go_enter Try.func41, Try.ntmps41
  go_wp2_with fail
  go_ret
  exact ⟨rfl, HK.out⟩
def getSt (c : Int) (E : List TEnt) (G : List Int) : Array Value := if goneB c G then stC none 0 0 0 else stOf c E
def getEr (c : Int) (E : List TEnt) (G : List Int) : Int := if goneB c G then 21 else if isIn c E then 0 else 10
set_option maxRecDepth 100000 in
set_option maxHeartbeats 1000000 in
theorem get_table (h : TabIs w base t mb room E G) (hE : E.length ≤ 100000) {c : Int} (hc : u16 c) :
    Calls Try.prog 57 #[.pointer (some ⟨t, 0, none⟩), .int .u16 c] w fun e w' => e = .returned (.tuple #[.agg (getSt c E G), .int .i64 (getEr c E G)]) ∧ Kept w w' := by
  have HK0 : Hid (Kept w (w.alloc (.cells #[.slice none 0 0, .int .i64 0] 113))) := Lib.hid ((Turned.refl _ w).alloc _)
  have HP : Hid (Blk (w.alloc (.cells #[.slice none 0 0, .int .i64 0] 113)) w.heap.size 113 #[.slice none 0 0, .int .i64 0]) := Lib.hid (Blk.new w _ _)
  have CG := gone_any (h.kept HK0.out) hc
  have HH := Lib.hid h
  clear h
  rcases hg : goneB c G with _ | _
  · have HSE : Hid (getSt c E G = stOf c E ∧ getEr c E G = if isIn c E then 0 else 10) := by
      show getSt c E G = _ ∧ getEr c E G = _
      unfold getSt getEr
      rw [hg]
      exact ⟨rfl, rfl⟩
    rw [hg] at CG
    have DG := Lib.hid CG
    clear hg CG
    have HST : Hid (∃ A n cc last, stOf c E = stC A n cc last) := by
      show ∃ A n cc last, stOf c E = stC A n cc last
      unfold stOf
      split
      · exact ⟨_, _, _, _, rfl⟩
      · exact ⟨_, _, _, _, rfl⟩
    obtain ⟨A, n, cc, last, hst⟩ := HST.out
    have HE2 : Hid (isIn c E = false → stC A n cc last = stC none 0 0 0) := by
      intro hi
      rw [← hst]
      unfold isIn at hi
      unfold stOf
      rcases hf : E.find? (fun x => x.ch == c) with _ | x
      · rw [hf]
      · rw [hf] at hi
        cases hi
    have HST2 := Lib.hid hst
    clear hst HST
    go_enter Try.func57, Try.ntmps57
    go_wp2_with fail
    refine DG.out.mono ?_
    rintro e w2 ⟨rfl, hK2⟩
    have hK02 := HK0.out.to hK2
    have hP2 := HP.out.turned hK2 (fun h => h)
    have CO := oget_any (HH.out.kept hK02) hE c
    rw [HST2.out] at CO
    have DO := Lib.hid CO
    clear CO DG HP
    obtain ⟨gp, hgp⟩ : ∃ gp, gp = w.heap.size := ⟨_, rfl⟩
    rw [← hgp] at hP2
    rw [← hgp]
    have HGP := Lib.hid hgp
    clear hgp
    go_wp2_with fail
    refine DO.out.mono ?_
    rintro e w3 ⟨rfl, hK3⟩
    have hK03 := hK02.to hK3
    have hP3 := hP2.turned hK3 (fun h => h)
    have hlt3 := hP3.lt
    have p0 : w3.cell? ⟨gp, 0, none⟩ = some (.slice none 0 0) := hP3.cell 0
    have p1 : w3.cell? ⟨gp, 1, none⟩ = some (.int .i64 0) := hP3.cell 1
    have f0 := hP3.frozen 0
    have f1 := hP3.frozen 1
    clear DO
    rcases hi : isIn c E with _ | _
    · have hz := HE2.out hi
      have HZ := Lib.hid hz
      have HSE2 : Hid (getSt c E G = stC none 0 0 0 ∧ getEr c E G = 10) := by
        refine ⟨by rw [HSE.out.1, HST2.out, HZ.out], by rw [HSE.out.2, hi]; rfl⟩
      clear hi hz
      unfold stC
      go_wp2_with fail
      refine bodyPost_ret (v := .tuple #[.agg (stC none 0 0 0), .int .i64 10]) (results_blk (p := 4) (q := 5) Try.results57 _ rfl rfl (((hP3.set_ 0 _).set_ 1 _).alloc _) Try.underlying113 rfl info_state) rfl ⟨by rw [HSE2.out.1, HSE2.out.2], ?_⟩
      exact ((hK03.setCell (p := ⟨gp, 0, none⟩) (fun h => by have := HGP.out; simp at h; omega) _).setCell (p := ⟨gp, 1, none⟩) (fun h => by have := HGP.out; simp at h; omega) _).alloc _
    · have HSE2 : Hid (getSt c E G = stC A n cc last ∧ getEr c E G = 0) := by
        refine ⟨by rw [HSE.out.1, HST2.out], by rw [HSE.out.2, hi]; rfl⟩
      clear hi
      unfold stC
      go_wp2_with fail
      refine bodyPost_ret (v := .tuple #[.agg (stC A n cc last), .int .i64 0]) (results_blk (p := 4) (q := 5) Try.results57 _ rfl rfl (((hP3.set_ 0 _).set_ 1 _).alloc _) Try.underlying113 rfl info_state) rfl ⟨by rw [HSE2.out.1, HSE2.out.2], ?_⟩
      exact ((hK03.setCell (p := ⟨gp, 0, none⟩) (fun h => by have := HGP.out; simp at h; omega) _).setCell (p := ⟨gp, 1, none⟩) (fun h => by have := HGP.out; simp at h; omega) _).alloc _
  · have HSE : Hid (getSt c E G = stC none 0 0 0 ∧ getEr c E G = 21) := by
      show getSt c E G = _ ∧ getEr c E G = _
      unfold getSt getEr
      rw [hg]
      exact ⟨rfl, rfl⟩
    rw [hg] at CG
    have DG := Lib.hid CG
    clear hg CG
    go_enter Try.func57, Try.ntmps57
    go_wp2_with fail
    refine DG.out.mono ?_
    rintro e w2 ⟨rfl, hK2⟩
    have hK02 := HK0.out.to hK2
    have hP2 := HP.out.turned hK2 (fun h => h)
    clear DG HP
    obtain ⟨gp, hgp⟩ : ∃ gp, gp = w.heap.size := ⟨_, rfl⟩
    rw [← hgp] at hP2
    rw [← hgp]
    have HGP := Lib.hid hgp
    clear hgp
    have p0 : w2.cell? ⟨gp, 0, none⟩ = some (.slice none 0 0) := hP2.cell 0
    have p1 : w2.cell? ⟨gp, 1, none⟩ = some (.int .i64 0) := hP2.cell 1
    have f0 := hP2.frozen 0
    have f1 := hP2.frozen 1
    go_wp2_with fail
    refine bodyPost_ret (v := .tuple #[.agg (stC none 0 0 0), .int .i64 21]) (results_blk (p := 4) (q := 5) Try.results57 _ rfl rfl ((hP2.set_ 0 _).set_ 1 _) Try.underlying113 rfl info_state) rfl ⟨by rw [HSE.out.1, HSE.out.2], ?_⟩
    exact (hK02.setCell (p := ⟨gp, 0, none⟩) (fun h => by have := HGP.out; simp at h; omega) _).setCell (p := ⟨gp, 1, none⟩) (fun h => by have := HGP.out; simp at h; omega) _
set_option maxRecDepth 100000 in
theorem drop_table (h : TabIs w base t mb room E G) (hE : E.length ≤ 100000) {c : Int} (hc : u16 c) (hg : c ∉ G) :
    Calls Try.prog 63 #[.pointer (some ⟨t, 0, none⟩), .int .u16 c] w fun e w' => e = .returned (.tuple #[]) ∧ TabIs w' base t mb room (dropE c E) (G ++ [c]) ∧ Turned (TFoot base mb w) w w' := by
  have DD := Lib.hid (odrop_any h hE c)
  have hlt := h.lt
  have HH := Lib.hid h
  clear h
  go_enter Try.func63, Try.ntmps63
  go_wp2_with fail
  refine DD.out.mono ?_
  rintro e w2 ⟨rfl, h2, hT2⟩
  obtain ⟨v, hB, hO⟩ := h2.row
  have c2 : w2.cell? ⟨t, 2, none⟩ = some (.map (some mb)) := hB.cell 2
  obtain ⟨o, hrun, hM⟩ := h2.gone.put_new key_atom Try.underlying105 (isK_atom hc) (fun p hp e => by
    obtain ⟨d, hd, rfl⟩ := List.mem_map.1 hp
    unfold goneP at e
    injection e with _ e
    exact hg (e ▸ hd)) (.agg #[])
  have hT3 : Turned (fun k => k = mb) w2 (ChangeMaps.setBlock w2 mb o) := (Turned.refl (fun k => k = mb) w2).setBlock (fun _ => rfl) o
  have H3 : Hid (TabIs (ChangeMaps.setBlock w2 mb o) base t mb room (dropE c E) (G ++ [c])) := by
    have hne : t ≠ mb := h2.gone.blk_ne hB
    refine ⟨h2.ge, h2.gm, ⟨v, hB.turned hT3 hne, own_turned hO hT3 (fun g hg e => h2.gone.own_ne hO (e ▸ hg))⟩, by rw [List.map_append]; exact hM, fun x hx => own_turned (h2.who x hx) hT3 (fun g hg e => h2.gone.own_ne (h2.who x hx) (e ▸ hg)), h2.set, h2.okE, fun d hd => ?_⟩
    rcases List.mem_append.1 hd with hd | hd
    · exact h2.okG d hd
    · rw [List.mem_singleton.1 hd]
      exact hc
  have HT : Hid (Turned (TFoot base mb w) w (ChangeMaps.setBlock w2 mb o)) := Lib.hid ((hT2.mono (fun k _ h => .inr h)).then_ hT3 (fun k _ h => .inl h))
  clear DD h2 hB hO hM hT3 hT2
  generalize ChangeMaps.setBlock w2 mb o = w3 at hrun H3 HT
  go_wp2_with fail
  go_end0
  exact ⟨rfl, H3.out, HT.out⟩
end
end Go.Proofs.Ytnicfiochnkjbaa
