/- The channels' table: its order: keys, get; Clone. -/
import Derived.Test.YtnicfiochnkjbaaT4
namespace Go.Proofs.Ytnicfiochnkjbaa
open Go.RowKit
def stC (A : Option Addr) (n c : Nat) (last : Int) : Array Value := #[.slice A n c, .int .i64 last]
/-- What get tells. -/
def stOf (c : Int) (E : List TEnt) : Array Value := match E.find? (fun x => x.ch == c) with
  | some x => stC x.A x.who.length x.c x.last
  | none => stC none 0 0 0
def isIn (c : Int) (E : List TEnt) : Bool := (E.find? (fun x => x.ch == c)).isSome
theorem find_place {c : Int} : ∀ {E : List TEnt} {i : Nat} {x : TEnt}, placeT c E = some i → E[i]? = some x → E.find? (fun x => x.ch == c) = some x
  | [], i, x, h, _ => by simp [placeT] at h
  | y :: E, i, x, h, hx => by
    unfold placeT at h
    rw [List.findIdx?_cons] at h
    by_cases hq : (y.ch == c) = true
    · rw [hq] at h
      have hi : i = 0 := by simpa using h.symm
      subst hi
      have : y = x := by simpa using hx
      subst this
      rw [List.find?_cons, hq]
    · have hf : (y.ch == c) = false := by simpa using hq
      rw [hf] at h
      simp only [Bool.false_eq_true, if_false, Option.map_eq_some_iff] at h
      obtain ⟨j, hj, rfl⟩ := h
      rw [List.find?_cons, hf]
      exact find_place (E := E) (i := j) hj (by simpa using hx)
theorem find_noplace {c : Int} {E : List TEnt} (h : placeT c E = none) : E.find? (fun x => x.ch == c) = none := by
  unfold placeT at h
  rw [List.findIdx?_eq_none_iff] at h
  rw [List.find?_eq_none]
  intro x hx
  rw [h x hx]
  simp
section
variable {w w' W w3 : World} {base t mb : Nat} {room : Int} {E : List TEnt} {G : List Int}
set_option maxRecDepth 100000 in
set_option maxHeartbeats 1000000 in
theorem oget_any (h : TabIs w base t mb room E G) (hE : E.length ≤ 100000) (c : Int) :
    Calls Try.prog 65 #[.pointer (some ⟨t, 1, none⟩), .int .u16 c] w fun e w' => e = .returned (.tuple #[.agg (stOf c E), .bool (isIn c E)]) ∧ Kept w w' := by
  have HK0 : Hid (Kept w (w.alloc (.cells #[.slice none 0 0, .int .i64 0] 113))) := Lib.hid ((Turned.refl _ w).alloc _)
  have HP : Hid (Blk (w.alloc (.cells #[.slice none 0 0, .int .i64 0] 113)) w.heap.size 113 #[.slice none 0 0, .int .i64 0]) := Lib.hid (Blk.new w _ _)
  have CF := findT_any (h.kept HK0.out) (by omega) c
  have hlt := h.lt.1
  rcases hpl : placeT c E with _ | i
  · rw [hpl] at CF
    simp only [placeI] at CF
    have DF := Lib.hid CF
    have HS : Hid (stOf c E = stC none 0 0 0 ∧ isIn c E = false) := by
      show stOf c E = _ ∧ isIn c E = _
      unfold stOf isIn
      rw [find_noplace hpl]
      exact ⟨rfl, rfl⟩
    clear CF hpl h
    go_enter Try.func65, Try.ntmps65
    go_wp2_with fail
    refine DF.out.mono ?_
    rintro e w2 ⟨rfl, hK2⟩
    have hP2 := HP.out.turned hK2 (fun h => h)
    have hK02 := HK0.out.to hK2
    have hlt2 := hP2.lt
    clear DF HP
    obtain ⟨gp, hgp⟩ : ∃ gp, gp = w.heap.size := ⟨_, rfl⟩
    rw [← hgp] at hP2 hlt2
    rw [← hgp]
    have HGP := Lib.hid hgp
    clear hgp
    have p0 : w2.cell? ⟨gp, 0, none⟩ = some (.slice none 0 0) := hP2.cell 0
    have p1 : w2.cell? ⟨gp, 1, none⟩ = some (.int .i64 0) := hP2.cell 1
    have f0 := hP2.frozen 0
    have f1 := hP2.frozen 1
    go_wp2_with fail
    refine bodyPost_ret (v := .tuple #[.agg (stC none 0 0 0), .bool false]) (results_blk (p := 4) (q := 5) Try.results65 _ rfl rfl (((hP2.set_ 0 _).set_ 1 _).alloc _) Try.underlying113 rfl info_state) rfl ⟨by rw [HS.out.1, HS.out.2], ?_⟩
    exact ((hK02.setCell (p := ⟨gp, 0, none⟩) (fun h => by have := HGP.out; simp at h; omega) _).setCell (p := ⟨gp, 1, none⟩) (fun h => by have := HGP.out; simp at h; omega) _).alloc _
  · obtain ⟨x, hx1, hx2, hx3, hxl⟩ := placeT_in hpl
    rw [hpl] at CF
    simp only [placeI] at CF
    have DF := Lib.hid CF
    have HS : Hid (stOf c E = stC x.A x.who.length x.c x.last ∧ isIn c E = true) := by
      show stOf c E = _ ∧ isIn c E = _
      unfold stOf isIn
      rw [find_place hpl hx1]
      exact ⟨rfl, rfl⟩
    have i0' : (0 : Int) ≤ (i : Int) := by omega
    have i1' : (i : Int) < (E.length : Int) := by omega
    have i2' : ¬ (i : Int) < 0 := by omega
    obtain ⟨v, hB, hO⟩ := h.row
    obtain ⟨Av, cv, rfl⟩ := own_slice hO
    obtain ⟨b, o, rfl, hbl, hcell⟩ := (ReadsT.of_own (V := entV) (fun _ => rfl) hO) i hxl
    have hxe : E[i] = x := by rw [List.getElem?_eq_getElem hxl] at hx1; injection hx1
    rw [hxe] at hcell
    have HCELL := Lib.hid hcell
    have HB := Lib.hid hB
    clear CF hpl h hx1 hx2 hx3 hO hB hxe hcell
    go_enter Try.func65, Try.ntmps65
    go_wp2_with fail
    refine DF.out.mono ?_
    rintro e w2 ⟨rfl, hK2⟩
    have hP2 := HP.out.turned hK2 (fun h => h)
    have hK02 := HK0.out.to hK2
    have hlt2 := hP2.lt
    have c1 : w2.cell? ⟨t, 1, none⟩ = some (.slice (some ⟨b, o, none⟩) E.length cv) := (HB.out.turned hK02 (fun h => h)).cell 1
    have r1 : w2.cell? ⟨b, o + i * 3 + 1, none⟩ = some (.slice x.A x.who.length x.c) := (hK02.cell (p := ⟨b, o + i * 3 + 1, none⟩) hbl (fun h => h)).trans (HCELL.out 1 (by omega))
    have r2 : w2.cell? ⟨b, o + i * 3 + 2, none⟩ = some (.int .i64 x.last) := (hK02.cell (p := ⟨b, o + i * 3 + 2, none⟩) hbl (fun h => h)).trans (HCELL.out 2 (by omega))
    clear DF HP
    obtain ⟨gp, hgp⟩ : ∃ gp, gp = w.heap.size := ⟨_, rfl⟩
    rw [← hgp] at hP2 hlt2
    rw [← hgp]
    have HGP := Lib.hid hgp
    clear hgp
    have p0 : w2.cell? ⟨gp, 0, none⟩ = some (.slice none 0 0) := hP2.cell 0
    have p1 : w2.cell? ⟨gp, 1, none⟩ = some (.int .i64 0) := hP2.cell 1
    have f0 := hP2.frozen 0
    have f1 := hP2.frozen 1
    go_wp2_with fail
    refine bodyPost_ret (v := .tuple #[.agg (stC x.A x.who.length x.c x.last), .bool true]) (results_blk (p := 4) (q := 5) Try.results65 _ rfl rfl ((hP2.set_ 0 _).set_ 1 _) Try.underlying113 rfl info_state) rfl ⟨by rw [HS.out.1, HS.out.2], ?_⟩
    exact (hK02.setCell (p := ⟨gp, 0, none⟩) (fun h => by have := HGP.out; simp at h; omega) _).setCell (p := ⟨gp, 1, none⟩) (fun h => by have := HGP.out; simp at h; omega) _
def chV (x : TEnt) : Value := .int .u16 x.ch
set_option maxRecDepth 100000 in
set_option maxHeartbeats 1000000 in
theorem keys_any (h : TabIs w base t mb room E G) (hE : E.length ≤ 100000) :
    Calls Try.prog 56 #[.pointer (some ⟨t, 1, none⟩)] w fun e w' => ∃ A c, e = .returned (.slice A E.length c) ∧ w'.ownsRow w.heap.size 56 1 (.slice A E.length c) E.length (E.map chV) ∧ Kept w w' := by
  obtain ⟨i0, hi0, hz0, hz1, hz2⟩ := info_parts info_atomz
  obtain ⟨v, hB, hO⟩ := h.row
  obtain ⟨Av, cv, rfl⟩ := own_slice hO
  have c1 : w.cell? ⟨t, 1, none⟩ = some (.slice Av E.length cv) := hB.cell 1
  have HRW := Lib.hid (ReadsT.of_own (V := entV) (fun _ => rfl) hO)
  have hlt := hB.lt
  clear hO hB h
  go_enter Try.func56, Try.ntmps56
  go_wp2_with fail
  go_loopg [3, 11] E.length (fun gk v i wr => ∃ (j : Nat) (F : List TEnt), j + gk = E.length ∧ i = .int .i64 j ∧ F = E.take j ∧ wr.ownsRow w.heap.size 56 1 v F.length (F.map chV) ∧ Kept w wr)
  case atStart => exact ⟨0, [], Nat.zero_add _, rfl, rfl, ⟨rfl, .inl ⟨rfl, rfl⟩⟩, Turned.refl _ _⟩
  case round =>
    clear c1
    obtain ⟨j, F, hj, rfl, hF, hown, hK⟩ := hrel
    have hFl : F.length ≤ j := by rw [hF, List.length_take]; omega
    have HF := Lib.hid hF
    obtain ⟨Ak, ck, rfl⟩ := own_slice hown
    have hsz := hK.size
    clear hF
    by_cases hjl : j < E.length
    · obtain ⟨b, o, rfl, hbl, hcell⟩ := HRW.out j hjl
      obtain ⟨x, hxe⟩ : ∃ x, x = E[j] := ⟨_, rfl⟩
      have HT : Hid (F ++ [x] = E.take (j + 1)) := by show F ++ [x] = _; rw [List.take_succ_eq_append_getElem hjl, ← HF.out, hxe]
      rw [← hxe] at hcell
      have hcl := fun i hi => (hK.cell (p := ⟨b, o + j * 3 + i, none⟩) hbl (fun h => h)).trans (hcell i hi)
      have d0 : wr.cell? ⟨b, o + j * 3, none⟩ = some (.int .u16 x.ch) := hcl 0 (by omega)
      have d1 : wr.cell? ⟨b, o + j * 3 + 1, none⟩ = some (.slice x.A x.who.length x.c) := hcl 1 (by omega)
      have d2 : wr.cell? ⟨b, o + j * 3 + 2, none⟩ = some (.int .i64 x.last) := hcl 2 (by omega)
      have i0' : (0 : Int) ≤ (j : Int) := by omega
      have i1 : (j : Int) < (E.length : Int) := by omega
      have hbw : b < wr.heap.size := by omega
      clear hxe hcell hcl
      have hK1 : Kept w (wr.alloc (.cells #[.int .u16 x.ch, .slice x.A x.who.length x.c, .int .i64 x.last] 126)) := hK.alloc _
      go_wp2_with (at_builtin; refine wpList_append_lies _ rfl (.tmp 15) (.tmp 18) 68 rfl w.heap.size 56 i0 _ 1 2 Try.underlying68 hi0 hz0 hz1 hz2 rfl (by omega) (.slice Ak F.length ck) F.length _ rfl ((hown.alloc _).alloc _) ⟨wr.heap.size + 1, 0, none⟩ 1 1 [.int .u16 x.ch] rfl rfl (World.news_of_block (cs := #[.int .u16 x.ch]) (t := 56) (fr := (0, 0)) (by have h0 := heap_alloc_new (wr.alloc (.cells #[.int .u16 x.ch, .slice x.A x.who.length x.c, .int .i64 x.last] 126)) (.cells #[.int .u16 x.ch] 56); rw [World.size_alloc] at h0; exact h0)) (by simp [Value.oneCell']) (by omega) (by unfold maxLen; omega) (by omega) (by simp; omega) (wr.heap.size + 1 + 1) (by simp) ?_; intro gg cap w3 O3 hg3 hat hlt3)
      have hK3 : Kept w w3 := (hK1.alloc _).grown hg3 (fun k h hk => by have := own_base hown h; omega)
      have O4 : w3.ownsRow w.heap.size 56 1 (.slice (some ⟨gg, 0, none⟩) (F.length + 1) cap) (F ++ [x]).length ((F ++ [x]).map chV) := by
        rw [List.map_append, List.length_append, List.length_singleton]
        exact O3
      clear O3 hg3 hat hK1
      go_roundg (gk - 1)
      case measure => omega
      case rel => exact ⟨j + 1, F ++ [x], by omega, by go_num, HT.out, O4, hK3⟩
    · have i1 : ¬ (j : Int) < (E.length : Int) := by omega
      have HF2 : F = E := by rw [HF.out, List.take_of_length_le (by omega)]
      subst HF2
      go_wp2_with fail
      go_ret
      exact ⟨_, _, rfl, hown, hK⟩
set_option maxRecDepth 100000 in
theorem clone_nil (w : World) : Calls Try.prog 58 #[.slice none 0 0] w fun e w' => e = .returned (.slice none 0 0) ∧ w = w' := by
  have hq := fun W => Lib.run_eql_slice_nil (P := Try.prog) W 23 51 none 0 0 0 0 Try.underlying23
  go_enter Try.func58, Try.ntmps58
  go_wp2_with fail
  go_ret
  exact ⟨rfl, rfl⟩
set_option maxRecDepth 100000 in
theorem clone_any (a : Addr) (c : Nat) (who : List ByteArray) (w : World) (hl : who.length ≤ 100000) (hr : ReadsT Value.string w w.heap.size 1 (some a) who) :
    Calls Try.prog 58 #[.slice (some a) who.length c] w fun e w' => ∃ A' c', e = .returned (.slice A' who.length c') ∧ w'.ownsRow w.heap.size 51 1 (.slice A' who.length c') who.length (who.map Value.string) ∧ Kept w w' := by
  obtain ⟨j0, hj0, hy0, hy1, hy2⟩ := info_parts info_wordz
  have hq := fun W => Lib.run_eql_slice_nil (P := Try.prog) W 23 51 (some a) who.length c 0 0 Try.underlying23
  have hE := own_empty w w.heap.size 51 1 (Nat.le_refl _)
  have hrd := hr.below (w' := w.alloc (.cells #[] 51)) (fun k hk => Below.heap_alloc w _ k hk)
  have hsz : w.heap.size ≤ (w.alloc (.cells #[] 51)).heap.size := by simp
  clear hr
  go_enter Try.func58, Try.ntmps58
  go_wp2_with (at_builtin; refine wpList_append_reads (V := Value.string) rfl (.tmp 5) (.tmp 6) 23 rfl w.heap.size 51 j0 _ 1 16 Try.underlying23 hj0 hy0 hy1 hy2 rfl (by omega) (fun _ => rfl) string_one _ _ _ rfl hE _ (some a) _ c who rfl rfl hrd (by unfold maxLen; omega) (by omega) hsz ?_; intro v5 w5 O5 hg5; rw [Nat.zero_add, List.nil_append, cellsOf_one (fun _ => rfl)] at O5; obtain ⟨A5, c5, rfl⟩ := own_slice O5)
  go_ret
  exact ⟨_, _, rfl, O5, ((Turned.refl _ w).alloc _).grown hg5 (fun k h hk => by have := own_base hE h; omega)⟩
end
end Go.Proofs.Ytnicfiochnkjbaa
