/- The document's cache: Forget, New. -/
import Derived.Test.YtnicfiochnkjbaaR5
namespace Go.Proofs.Ytnicfiochnkjbaa
open Go.RowKit
def keepI (ob : Int) (I : List RItem) : List RItem := I.filter (fun x => decide (x.q.obj ≠ ob))
theorem keepI_len (ob : Int) (I : List RItem) : (keepI ob I).length ≤ I.length := List.length_filter_le _ _
theorem keepI_map (ob : Int) (I : List RItem) : (keepI ob I).map RItem.ent = forgetX ob (I.map RItem.ent) := by
  unfold keepI forgetX
  rw [List.filter_map]
  rfl
theorem keepI_take {ob : Int} {I : List RItem} {j : Nat} (hj : j < I.length) : keepI ob (I.take (j + 1)) = keepI ob (I.take j) ++ (if I[j].q.obj = ob then [] else [I[j]]) := by
  rw [List.take_succ_eq_append_getElem hj]
  unfold keepI
  rw [List.filter_append]
  by_cases h : I[j].q.obj = ob <;> simp [h]
def ForPost18 (w : World) (base r : Nat) (room : Int) (I : List RItem) (ob : Int) (e : Ending) (w' : World) : Prop :=
  e = .returned (.int .i64 ((I.length : Int) - ((forgetX ob (I.map RItem.ent)).length : Int))) ∧ ∃ I', RefIs w' base r room I' ∧ I'.map RItem.ent = forgetX ob (I.map RItem.ent) ∧ Turned (RFoot base w) w w' ∧ ∀ x ∈ I', x ∈ I
set_option maxRecDepth 100000 in
set_option maxHeartbeats 2000000 in
theorem forget18_any {w : World} {base r : Nat} {room : Int} {I : List RItem} (h : RefIs w base r room I) (hI : I.length ≤ 1000) (ob : Int) :
    Calls Try.prog 24 #[.pointer (some ⟨r, 0, none⟩), .int .i64 ob] w (ForPost18 w base r room I ob) := by
  obtain ⟨i0, hi0, hz0, hz1, hz2⟩ := info_parts info_item
  obtain ⟨v, hB, hO⟩ := h.row
  obtain ⟨Av, cv, rfl⟩ := own_slice hO
  have hlt := hB.lt
  have hE := own_empty w w.heap.size 104 7 (Nat.le_refl _)
  have HRW := Lib.hid (ReadsT.of_own (V := itemV) (fun _ => rfl) hO)
  have HB := Lib.hid hB
  have HH := Lib.hid h
  clear hO hB h
  go_enter Try.func24, Try.ntmps24
  go_wp2_with fail
  go_loopg [5, 6] I.length (fun gk v i wr => ∃ (j : Nat) (F : List RItem), j + gk = I.length ∧ i = .int .i64 j ∧ F = keepI ob (I.take j) ∧ wr.ownsRow w.heap.size 104 7 v F.length (cellsOf itemV F) ∧ Kept w wr)
  case atStart => exact ⟨0, [], Nat.zero_add _, rfl, rfl, hE, (Turned.refl _ _).alloc _⟩
  case round =>
    obtain ⟨j, F, hj, rfl, hF, hown, hK⟩ := hrel
    clear hE
    have hFl : F.length ≤ j := by
      rw [hF]
      refine Nat.le_trans (keepI_len _ _) ?_
      rw [List.length_take]
      omega
    have HF := Lib.hid hF
    obtain ⟨Ak, ck, rfl⟩ := own_slice hown
    have c00 : wr.cell? ⟨r, 0, none⟩ = some (.slice Av I.length cv) := (HB.out.turned hK (fun h => h)).cell 0
    have f00 := (HB.out.turned hK (fun h => h)).frozen 0
    have hsz := hK.size
    clear hF
    by_cases hjl : j < I.length
    · obtain ⟨b, o, rfl, hbl, hcell⟩ := HRW.out j hjl
      have HT := Lib.hid (keepI_take (ob := ob) hjl)
      obtain ⟨x, hxe⟩ : ∃ x, x = I[j] := ⟨_, rfl⟩
      rw [← hxe] at hcell HT
      have hcl := fun i hi => (hK.cell (p := ⟨b, o + j * 7 + i, none⟩) hbl (fun h => h)).trans (hcell i hi)
      have c0 : wr.cell? ⟨b, o + j * 7, none⟩ = some (.int .i64 x.q.obj) := hcl 0 (by omega)
      have c1 : wr.cell? ⟨b, o + j * 7 + 1, none⟩ = some (.int .i64 x.q.op) := hcl 1 (by omega)
      have c2 : wr.cell? ⟨b, o + j * 7 + 2, none⟩ = some (.slice x.A x.q.who.length x.c) := hcl 2 (by omega)
      have c3 : wr.cell? ⟨b, o + j * 7 + 3, none⟩ = some (.int .i64 x.ver) := hcl 3 (by omega)
      have c4 : wr.cell? ⟨b, o + j * 7 + 4, none⟩ = some (.int .i64 x.turn) := hcl 4 (by omega)
      have c5 : wr.cell? ⟨b, o + j * 7 + 5, none⟩ = some (.int .i64 x.told) := hcl 5 (by omega)
      have c6 : wr.cell? ⟨b, o + j * 7 + 6, none⟩ = some (.int .i64 x.till) := hcl 6 (by omega)
      have i0' : (0 : Int) ≤ (j : Int) := by omega
      have i1 : (j : Int) < (I.length : Int) := by omega
      have hbw : b < wr.heap.size := by omega
      clear hxe hcell hcl
      by_cases hq : x.q.obj = ob
      · have d : (x.q.obj != ob) = false := by simp [hq]
        have HT2 : Hid (F = keepI ob (I.take (j + 1))) := by
          show F = _
          rw [HT.out, if_pos hq, List.append_nil]
          exact HF.out
        clear hq
        go_wp2_with fail
        go_roundg (gk - 1)
        case measure => omega
        case rel => exact ⟨j + 1, F, by omega, by go_num, HT2.out, hown, hK⟩
      · have d : (x.q.obj != ob) = true := by rw [bne_iff_ne]; exact hq
        have HT2 : Hid (F ++ [x] = keepI ob (I.take (j + 1))) := by
          show F ++ [x] = _
          rw [HT.out, if_neg hq, ← HF.out]
        clear hq
        go_wp2_with (at_builtin; refine wpList_append_lies _ rfl (.tmp 29) (.tmp 37) 48 rfl w.heap.size 104 i0 _ 7 72 Try.underlying48 hi0 hz0 hz1 hz2 rfl (by omega) (.slice Ak F.length ck) F.length _ rfl (hown.alloc _) ⟨wr.heap.size, 0, none⟩ 1 1 [.int .i64 x.q.obj, .int .i64 x.q.op, .slice x.A x.q.who.length x.c, .int .i64 x.ver, .int .i64 x.turn, .int .i64 x.told, .int .i64 x.till] rfl rfl (World.news_of_block (cs := #[.int .i64 x.q.obj, .int .i64 x.q.op, .slice x.A x.q.who.length x.c, .int .i64 x.ver, .int .i64 x.turn, .int .i64 x.told, .int .i64 x.till]) (t := 104) (fr := (0, 0)) (heap_alloc_new wr _)) (by simp [Value.oneCell']) (by omega) (by unfold maxLen; omega) (by omega) (by simp; omega) (wr.heap.size + 1) (by simp) ?_; intro gg cap w3 O3 hg3 hat hlt3)
        have hK3 : Kept w w3 := (hK.alloc _).grown hg3 (fun k h hk => by have := own_base hown h; omega)
        have O4 : w3.ownsRow w.heap.size 104 7 (.slice (some ⟨gg, 0, none⟩) (F.length + 1) cap) (F ++ [x]).length (cellsOf itemV (F ++ [x])) := by
          rw [cellsOf_append, List.length_append, List.length_singleton]
          have hc : cellsOf itemV [x] = [.int .i64 x.q.obj, .int .i64 x.q.op, .slice x.A x.q.who.length x.c, .int .i64 x.ver, .int .i64 x.turn, .int .i64 x.told, .int .i64 x.till] := by simp [cellsOf, itemV, Value.cells, RItem.cs]
          rw [hc]
          exact O3
        clear O3 hg3 hat
        go_roundg (gk - 1)
        case measure => omega
        case rel => exact ⟨j + 1, F ++ [x], by omega, by go_num, HT2.out, O4, hK3⟩
    · have i1 : ¬ (j : Int) < (I.length : Int) := by omega
      have HF2 : Hid (F = keepI ob I) := by
        show F = _
        rw [HF.out, List.take_of_length_le (by omega)]
      have hlr : r < wr.heap.size := by omega
      go_wp2_with fail
      go_ret
      have hF := HF2.out
      have hO9 := own_turned hown ((Turned.refl (fun k => k = r) wr).setCell (p := ⟨r, 0, none⟩) (fun _ => rfl) (.slice Ak F.length ck)) (fun g hg e => by have := own_base hown hg; omega)
      have hT9 : Turned (fun j => j = r) w (wr.setCell ⟨r, 0, none⟩ (.slice Ak F.length ck)) := (hK.mono (S' := fun j => j = r) (fun _ _ h => h.elim)).setCell (p := ⟨r, 0, none⟩) (fun _ => rfl) _
      have hge := HH.out.ge
      refine ⟨?_, F, ⟨hge, ⟨_, (HB.out.turned hK (fun h => h)).set_ 0 _, own_weaken hO9 (by omega)⟩, fun x hx => ?_, fun x hx => ?_⟩, ?_, ?_, fun x hx => ?_⟩
      · rw [← keepI_map, List.length_map, ← hF]
        rfl
      · have hx' : x ∈ I := by rw [hF] at hx; exact (List.mem_filter.1 hx).1
        exact own_turned (HH.out.who x hx') hT9 (fun g hg e => by subst e; exact own_blk_ne (HH.out.who x hx') HB.out (by decide) hg)
      · have hx' : x ∈ I := by rw [hF] at hx; exact (List.mem_filter.1 hx).1
        exact HH.out.set x hx'
      · rw [hF]
        exact keepI_map ob I
      · exact hT9.mono (fun i hi h => by subst h; exact ⟨by omega, _, _, HB.out, .inl rfl⟩)
      · rw [hF] at hx
        exact (List.mem_filter.1 hx).1
/-- What New tells. -/
def NewR18 (room : Int) (w : World) (e : Ending) (w' : World) : Prop :=
  ((room < 1 ∨ 100 < room) ∧ e = .returned (.pointer none) ∧ w = w') ∨ (1 ≤ room ∧ room ≤ 100) ∧ ∃ r, e = .returned (.pointer (some ⟨r, 0, none⟩)) ∧ (∀ base, base ≤ w.heap.size → RefIs w' base r room []) ∧ Kept w w'
set_option maxRecDepth 100000 in
theorem new18_any (room : Int) (w : World) (_hr : i64 room) : Calls Try.prog 20 #[.int .i64 room] w (NewR18 room w) := by
  by_cases h1 : 1 ≤ room
  · have d1 : decide (room < 1) = false := by rw [decide_eq_false_iff_not]; omega
    by_cases h2 : room ≤ 100
    · have d2 : decide (100 < room) = false := by rw [decide_eq_false_iff_not]; omega
      have HC : Hid (∀ base, base ≤ w.heap.size → RefIs (w.alloc (.cells #[.slice none 0 0, .int .i64 room] 50)) base w.heap.size room []) := fun base hb =>
        ⟨hb, ⟨_, Blk.new w _ _, ⟨by simp [cellsOf], .inl ⟨rfl, rfl⟩⟩⟩, fun x hx => (by cases hx), fun x hx => (by cases hx)⟩
      have HK : Hid (Kept w (w.alloc (.cells #[.slice none 0 0, .int .i64 room] 50))) := Lib.hid ((Turned.refl _ w).alloc _)
      go_enter Try.func20, Try.ntmps20
      go_wp2_with fail
      go_ret
      exact .inr ⟨⟨h1, h2⟩, _, rfl, HC.out, HK.out⟩
    · have d2 : decide (100 < room) = true := by rw [decide_eq_true_eq]; omega
      go_enter Try.func20, Try.ntmps20
      go_wp2_with fail
      go_ret
      exact .inl ⟨.inr (by omega), rfl, rfl⟩
  · have d1 : decide (room < 1) = true := by rw [decide_eq_true_eq]; omega
    go_enter Try.func20, Try.ntmps20
    go_wp2_with fail
    go_ret
    exact .inl ⟨.inl (by omega), rfl, rfl⟩
end Go.Proofs.Ytnicfiochnkjbaa
