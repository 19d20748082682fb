/- The document's cache: Get. -/
import Derived.Test.YtnicfiochnkjbaaR4
namespace Go.Proofs.Ytnicfiochnkjbaa
open Go.RowKit
theorem info_itemS : (Try.prog.info? 104).map (·.size) = some 7 := by kernel_rfl
theorem item_one (x : RItem) : x.cs.all (·.oneCell') = true := by simp [RItem.cs, Value.oneCell']
theorem item_cells {W : World} {x : RItem} {b o j : Nat} (hc : ∀ i, i < 7 → W.cell? ⟨b, o + j * 7 + i, none⟩ = (itemV x).cells[i]?) : W.rangeAt b (o + j * 7) x.cs.toList := fun i v hv => by
  have hi : i < 7 := by
    have := (List.getElem?_eq_some_iff.1 hv).1
    simpa [RItem.cs] using this
  rw [hc i hi]
  simpa [itemV, Value.cells] using hv
def GetPost18 (w : World) (base r : Nat) (room : Int) (I : List RItem) (q : Qu) (ver turn t : Int) (e : Ending) (w' : World) : Prop :=
  e = .returned (.tuple #[.int .i64 (toldR (hitX q ver turn t (I.map RItem.ent))), .bool (hitX q ver turn t (I.map RItem.ent)).isSome]) ∧ ∃ I', RefIs w' base r room I' ∧ I'.map RItem.ent = getX q ver turn t (I.map RItem.ent) ∧ Turned (RFoot base w) w w' ∧ ∀ x ∈ I', x ∈ I
section
variable {I : List RItem} {q : Qu} {ver turn t : Int} {i : Nat} {x : RItem}
theorem get_none18 (h : placeR q I = none) : hitX q ver turn t (I.map RItem.ent) = none ∧ getX q ver turn t (I.map RItem.ent) = I.map RItem.ent := by
  unfold hitX getX
  rw [find_map h]
  constructor <;> split <;> rfl
theorem get_hit18 (hk : (I.map RItem.ent).Pairwise (fun a b => a.q ≠ b.q)) (h : placeR q I = some i) (hx : I[i]? = some x) (hs : setR q.who = true) (hf : fresh x.ent ver turn t = true) :
    hitX q ver turn t (I.map RItem.ent) = some x.ent ∧ (I.eraseIdx i ++ [x]).map RItem.ent = getX q ver turn t (I.map RItem.ent) := by
  unfold hitX getX
  rw [find_some_map h hx, hs, if_pos rfl, if_pos rfl]
  simp only [hf, if_true]
  rw [List.map_append, drop_some_map hk h]
  exact ⟨trivial, rfl⟩
theorem get_old18 (hk : (I.map RItem.ent).Pairwise (fun a b => a.q ≠ b.q)) (h : placeR q I = some i) (hx : I[i]? = some x) (hs : setR q.who = true) (hf : fresh x.ent ver turn t = false) :
    hitX q ver turn t (I.map RItem.ent) = none ∧ (I.eraseIdx i).map RItem.ent = getX q ver turn t (I.map RItem.ent) := by
  unfold hitX getX
  rw [find_some_map h hx, hs, if_pos rfl, if_pos rfl]
  simp only [hf, Bool.false_eq_true, if_false]
  rw [drop_some_map hk h]
  exact ⟨trivial, rfl⟩
end
set_option maxRecDepth 100000 in
set_option maxHeartbeats 4000000 in
theorem get18_any {w : World} {base r : Nat} {room : Int} {I : List RItem} (h : RefIs w base r room I) (hk : (I.map RItem.ent).Pairwise (fun a b => a.q ≠ b.q)) (hI : I.length ≤ 1000) (ob op ver turn t : Int) (A : Option Addr) (c : Nat) (who : List ByteArray) (hl : who.length ≤ 1000) (hr : ReadsT Value.string w w.heap.size 1 A who) :
    Calls Try.prog 23 #[.pointer (some ⟨r, 0, none⟩), .agg #[.int .i64 ob, .int .i64 op, .slice A who.length c, .int .i64 ver, .int .i64 turn], .int .i64 t] w (GetPost18 w base r room I ⟨ob, op, who⟩ ver turn t) := by
  obtain ⟨i0, hi0, hz0, hz1, hz2⟩ := info_parts info_item
  have HK0 : Hid (Kept w (w.alloc (.cells #[.int .i64 ob, .int .i64 op, .slice A who.length c, .int .i64 ver, .int .i64 turn] 45))) := Lib.hid ((Turned.refl _ w).alloc _)
  have HP : Hid (Blk (w.alloc (.cells #[.int .i64 ob, .int .i64 op, .slice A who.length c, .int .i64 ver, .int .i64 turn] 45)) w.heap.size 45 #[.int .i64 ob, .int .i64 op, .slice A who.length c, .int .i64 ver, .int .i64 turn]) := Lib.hid (Blk.new w _ _)
  have CF := find18_any (h.kept HK0.out) (by omega) ob op ver turn A c who (by omega) (hr.kept HK0.out)
  have HH := Lib.hid h
  have HRL := Lib.hid h.lt
  have hge := h.ge
  have HKY := Lib.hid hk
  clear hr hk h
  rcases hpl : placeR ⟨ob, op, who⟩ I with _ | i
  · rw [hpl] at CF
    simp only [placeI] at CF
    have DF := Lib.hid CF
    have HG := Lib.hid (get_none18 (ver := ver) (turn := turn) (t := t) hpl)
    clear CF hpl
    go_enter Try.func23, Try.ntmps23
    go_wp2_with fail
    refine DF.out.mono ?_
    rintro e w2 ⟨rfl, hK2⟩
    go_wp2_with fail
    go_ret2
    exact ⟨by rw [HG.out.1]; rfl, I, HH.out.kept (HK0.out.to hK2), HG.out.2.symm, (HK0.out.to hK2).mono (fun _ _ h => h.elim), fun _ h => h⟩
  · obtain ⟨x, hx1, hxm, hxq, hxl⟩ := place_in hpl
    have hsq : setR who = true := by have := HH.out.set x hxm; rw [hxq] at this; exact this
    rw [hpl] at CF
    simp only [placeI] at CF
    have DF := Lib.hid CF
    have HPL := Lib.hid hpl
    have HX1 := Lib.hid hx1
    have HXM := Lib.hid hxm
    have HSQ : Hid (setR (Qu.mk ob op who).who = true) := Lib.hid hsq
    have i0' : (0 : Int) ≤ (i : Int) := by omega
    have i1' : (i : Int) < (I.length : Int) := by omega
    have i2' : ¬ (i : Int) < 0 := by omega
    clear CF hpl hx1 hxm hsq hxq
    obtain ⟨v00, hB00, hO00⟩ := HH.out.row
    obtain ⟨A00, c00, rfl⟩ := own_slice hO00
    obtain ⟨b, o, rfl, hbl, hcell⟩ := (ReadsT.of_own (V := itemV) (fun _ => rfl) hO00) i hxl
    have hxe : I[i] = x := by have := HX1.out; rw [List.getElem?_eq_getElem hxl] at this; injection this
    rw [hxe] at hcell
    have HCELL := Lib.hid hcell
    clear hxe hcell hO00
    go_enter Try.func23, Try.ntmps23
    go_wp2_with fail
    refine DF.out.mono ?_
    rintro e w2 ⟨rfl, hK2⟩
    clear DF
    generalize w.alloc (.cells #[.int .i64 ob, .int .i64 op, .slice A who.length c, .int .i64 ver, .int .i64 turn] 45) = w1 at HK0 HP hK2
    obtain ⟨gp, hgp⟩ : ∃ gp, gp = w.heap.size := ⟨_, rfl⟩
    rw [← hgp] at HP
    rw [← hgp]
    have HGP := Lib.hid hgp
    clear hgp
    have hKw := HK0.out.to hK2
    have hR2 := HH.out.kept hKw
    have hP2 := HP.out.turned hK2 (fun h => h)
    have hB2 := hB00.turned hKw (fun h => h)
    have c0 : w2.cell? ⟨r, 0, none⟩ = some (.slice (some ⟨b, o, none⟩) I.length c00) := hB2.cell 0
    have hrng : w2.rangeAt b (o + i * 7) x.cs.toList := item_cells (fun k hk => (hKw.cell (p := ⟨b, o + i * 7 + k, none⟩) hbl (fun h => h)).trans (HCELL.out k hk))
    have hBz : Hid (Blk (w2.alloc (.cells #[.int .i64 0, .int .i64 0, .slice none 0 0, .int .i64 0, .int .i64 0, .int .i64 0, .int .i64 0] 104)) w2.heap.size 104 #[.int .i64 0, .int .i64 0, .slice none 0 0, .int .i64 0, .int .i64 0, .int .i64 0, .int .i64 0]) := Lib.hid (Blk.new w2 _ _)
    go_upto_region 5 with (first
      | (refine wpList_load_mid rfl 104 (.tmp 20) rfl b (o + i * 7) rfl x.cs.toList _ hrng Try.underlying104 rfl info_itemS ?_)
      | (refine wpList_store_blk rfl (.tmp 9) (.tmp 21) rfl rfl (cs' := x.cs) rfl hBz.out info_itemS rfl (item_one x) ?_; intro w3 hX3 hT3 hs3; clear hs3))
    have hT23 : Turned (fun k => w2.heap.size ≤ k) w2 w3 := ((Turned.refl _ w2).alloc _).then_ hT3 (fun k hk h => by omega)
    have hR3 := hR2.beside hT23 (fun k t cs _ hb _ => by have := hb.lt; simp; omega) (fun y hy g cs _ _ hb => by have := hb.lt; simp; omega)
    have hgp2 := hP2.lt
    have hP3 := hP2.turned hT23 (by simp; omega)
    have hK3 : Kept w w3 := hKw.then_ hT23 (fun k hk h => by have := hKw.size; omega)
    have hgx3 : w.heap.size ≤ w2.heap.size := hKw.size
    have hgx2 := hX3.lt
    have hne : w2.heap.size ≠ gp := by omega
    clear hT3 hrng hBz hR2 hP2 hB2 c0 hT23
    generalize w2.heap.size = gx at hX3 hgx3 hgx2 hne ⊢
    clear hKw hK2 hgp2
    go_wp2_with fail
    refine (hR3.withoutF hxl (by omega)).mono ?_
    rintro e w4 ⟨rfl, hR4, hT4, hfr4⟩
    have HFR := Lib.hid hfr4
    clear hfr4
    have hgr : gp ≠ r := by have := HGP.out; have := HRL.out; omega
    have hxr : gx ≠ r := by have := HRL.out; omega
    have hP4 := hP3.turned hT4 hgr
    have hX4 := hX3.turned hT4 hxr
    have hT04 : Turned (fun j => j = r) w w4 := (hK3.mono (fun _ _ h => h.elim)).then_ hT4 (fun _ _ h => h)
    have hI4 : (I.eraseIdx i).length ≤ 1000 := by rw [List.length_eraseIdx_of_lt hxl]; omega
    have HS4 : Hid (∀ y ∈ I.eraseIdx i, y ∈ I) := Lib.hid (fun _ h => List.mem_of_mem_eraseIdx h)
    have hW4 := own_turned (own_turned (HH.out.who x HXM.out) hK3 (fun _ _ h => h)) hT4 (fun g hg e => by subst e; exact own_blk_ne (HH.out.who x HXM.out) hB00 (by decide) hg)
    have e3 : w4.cell? ⟨gx, 3, none⟩ = some (.int .i64 x.ver) := hX4.cell 3
    have e4 : w4.cell? ⟨gx, 4, none⟩ = some (.int .i64 x.turn) := hX4.cell 4
    have e6 : w4.cell? ⟨gx, 6, none⟩ = some (.int .i64 x.till) := hX4.cell 6
    have y3 : w4.cell? ⟨gp, 3, none⟩ = some (.int .i64 ver) := hP4.cell 3
    have y4 : w4.cell? ⟨gp, 4, none⟩ = some (.int .i64 turn) := hP4.cell 4
    clear hR3 hP3 hX3 hT4 hK3
    by_cases hf : x.ver = ver ∧ x.turn = turn ∧ t < x.till
    · obtain ⟨f1, f2, f3⟩ := hf
      have HF := Lib.hid (get_hit18 HKY.out HPL.out HX1.out HSQ.out (by unfold fresh; exact decide_eq_true ⟨f1, f2, f3⟩))
      have HF2 := HF.out.2
      have d1 : (x.ver != ver) = false := by simp [f1]
      have d2 : (x.turn != turn) = false := by simp [f2]
      have d3 : decide (x.till ≤ t) = false := by rw [decide_eq_false_iff_not]; omega
      have HF2' := Lib.hid HF2
      clear f1 f2 HF2
      generalize I.eraseIdx i = I2 at hR4 hI4 HS4 HF2'
      obtain ⟨v2, hB6, hO6⟩ := hR4.row
      obtain ⟨A2, c2, rfl⟩ := own_slice hO6
      go_wp2_with fail
      clear e3 e4 e6 y3 y4 d1 d2 d3
      have q0 : w4.cell? ⟨gx, 0, none⟩ = some (.int .i64 x.q.obj) := hX4.cell 0
      have q1 : w4.cell? ⟨gx, 1, none⟩ = some (.int .i64 x.q.op) := hX4.cell 1
      have q2 : w4.cell? ⟨gx, 2, none⟩ = some (.slice x.A x.q.who.length x.c) := hX4.cell 2
      have q3 : w4.cell? ⟨gx, 3, none⟩ = some (.int .i64 x.ver) := hX4.cell 3
      have q4 : w4.cell? ⟨gx, 4, none⟩ = some (.int .i64 x.turn) := hX4.cell 4
      have q5 : w4.cell? ⟨gx, 5, none⟩ = some (.int .i64 x.told) := hX4.cell 5
      have q6 : w4.cell? ⟨gx, 6, none⟩ = some (.int .i64 x.till) := hX4.cell 6
      have b0 : w4.cell? ⟨r, 0, none⟩ = some (.slice A2 I2.length c2) := hB6.cell 0
      have bf := hB6.frozen 0
      have hr6 := hB6.lt
      have hg6 := hX4.lt
      go_region_law (refine step_append_lies _ (by rfl) _ _ _ (by rfl) base 104 i0 _ 7 72 Try.underlying48 hi0 hz0 hz1 hz2 rfl (by omega) (.slice A2 I2.length c2) I2.length _ (by rfl) ((hO6.alloc _).drew) ⟨w4.heap.size, 0, none⟩ 1 1 [.int .i64 x.q.obj, .int .i64 x.q.op, .slice x.A x.q.who.length x.c, .int .i64 x.ver, .int .i64 x.turn, .int .i64 x.told, .int .i64 x.till] (by rfl) (by rfl) (World.news_of_block (cs := #[.int .i64 x.q.obj, .int .i64 x.q.op, .slice x.A x.q.who.length x.c, .int .i64 x.ver, .int .i64 x.turn, .int .i64 x.told, .int .i64 x.till]) (t := 104) (fr := (0, 0)) (heap_alloc_new w4 _)) (by simp [Value.oneCell']) (by omega) (by unfold maxLen; omega) (by omega) (by simp; omega) (w4.heap.size + 1) (by simp) ?_; intro gg cap w7 O7 hg7 hat hlt7; have B7 : Blk w7 r 50 _ := (hB6.alloc _).drew.grown hg7 (Ne.symm (own_blk_ne hO6 hB6 (by decide))); have e0 : w7.cell? ⟨r, 0, none⟩ = some (.slice A2 I2.length c2) := B7.cell 0; have e1 := B7.frozen 0)
      all_goals
        obtain ⟨hF, hTF⟩ := RefIs.pushed (y := x) hR4 hB6 hO6 hg7 O7 (pushed_at hat) hW4 (HH.out.set x HXM.out)
        have hTT : Turned (RFoot base w) w (w7.setCell ⟨r, 0, none⟩ (.slice (some ⟨gg, 0, none⟩) (I2.length + 1) cap)) := (hT04.mono (S' := RFoot base w) (fun i hi h => RFoot.of_row hT04 hge hB00 hO6 hB6 hi (.inl h))).then_ hTF (fun i hi h => RFoot.of_row hT04 hge hB00 hO6 hB6 hi h)
        have hX9 := hX4.turned hTF (fun h => by
          rcases h with h | h
          · exact hxr h
          · have := HFR.out _ hB6 _ h; omega)
        have z5 : (w7.setCell ⟨r, 0, none⟩ (.slice (some ⟨gg, 0, none⟩) (I2.length + 1) cap)).cell? ⟨gx, 5, none⟩ = some (.int .i64 x.told) := hX9.cell 5
        generalize w7.setCell ⟨r, 0, none⟩ (.slice (some ⟨gg, 0, none⟩) (I2.length + 1) cap) = wF at hF hTT z5 ⊢
        go_wp2_with fail
        go_ret2
        refine ⟨by rw [HF.out.1]; rfl, _, hF, HF2'.out, hTT, fun y hy => ?_⟩
        rcases List.mem_append.1 hy with hy | hy
        · exact HS4.out y hy
        · rw [List.mem_singleton.1 hy]
          exact HXM.out
    · have HF := Lib.hid (get_old18 (x := x) (ver := ver) (turn := turn) (t := t) HKY.out HPL.out HX1.out HSQ.out (by unfold fresh; exact decide_eq_false hf))
      have hways : (x.ver != ver) = true ∨ ((x.ver != ver) = false ∧ (x.turn != turn) = true) ∨ ((x.ver != ver) = false ∧ (x.turn != turn) = false ∧ decide (x.till ≤ t) = true) := by
        by_cases g1 : x.ver = ver
        · by_cases g2 : x.turn = turn
          · exact .inr (.inr ⟨by simp [g1], by simp [g2], by rw [decide_eq_true_eq]; exact Int.not_lt.1 (fun g3 => hf ⟨g1, g2, g3⟩)⟩)
          · exact .inr (.inl ⟨by simp [g1], by rw [bne_iff_ne]; exact g2⟩)
        · exact .inl (by rw [bne_iff_ne]; exact g1)
      obtain ⟨v2, hB6, hO6⟩ := hR4.row
      clear hf
      rcases hways with d1 | ⟨d1, d2⟩ | ⟨d1, d2, d3⟩
      all_goals
        go_wp2_with fail
        go_ret2
        exact ⟨by rw [HF.out.1]; rfl, _, hR4, HF.out.2, hT04.mono (fun i hi h => RFoot.of_row hT04 hge hB00 hO6 hB6 hi (.inl h)), HS4.out⟩
end Go.Proofs.Ytnicfiochnkjbaa
