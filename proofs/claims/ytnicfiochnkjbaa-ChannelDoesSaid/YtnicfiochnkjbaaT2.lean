/- The channels' table: delete, Clone. -/
import Derived.Test.YtnicfiochnkjbaaT1
namespace Go.Proofs.Ytnicfiochnkjbaa
open Go.RowKit
section
variable {α : Type} {V : α → Value}
theorem cellsOf_take {size : Nat} (hV : ∀ x, (V x).cells.size = size) (xs : List α) (i : Nat) (hi : i ≤ xs.length) : (cellsOf V xs).take (i * size) = cellsOf V (xs.take i) := by
  have h : cellsOf V xs = cellsOf V (xs.take i) ++ cellsOf V (xs.drop i) := by rw [← cellsOf_append, List.take_append_drop]
  rw [h]
  refine List.take_left' ?_
  rw [cellsOf_length hV, List.length_take]
  congr 1
  omega
end
section
variable {P : Program} {w w' : World} {o : Oper} {a : Act} {K : Act → World → Prop} {Q : Exit → Act → World → Prop} {v u v' : Value}
theorem wp_append_run (s x : Operand) (t : TypeId) (ho : o.op = .call { callee := .builtin .append, args := #[s, x], argTypes := #[t, t] }) (hs : a.eval s = v) (hx : a.eval x = u)
    (hrun : (Builtin.append_ #[t, t] o.type #[v, u]).run P w = .ok v' w') (h : K (a.put o.dst v') w') : o.wp P a w K Q := by
  unfold Oper.wp execOp
  simp only [ho, resolve, invoke, builtin, Sem.run_bind, Sem.run_pure, Result.andThen_ok, List.map_toArray, List.map_cons, List.map_nil, hs, hx, hrun]
  exact h
end
theorem zero_ent (w : World) : (zeroValue 126).run Try.prog w = .ok (.agg #[.int .u16 0, .slice none 0 0, .int .i64 0]) w := by kernel_rfl
/-- What slices.Delete does to the row. -/
theorem del_run {w : World} {base g c : Nat} {E : List TEnt} {i m : Nat} (O : w.ownsRow base 126 3 (.slice (some ⟨g, 0, none⟩) E.length c) E.length (cellsOf entV E)) (hi : i < E.length) (hm : E.length = m + 1) :
    ∃ ad w2, (∀ W, (Instr.slice 106 (.slice (some ⟨g, 0, none⟩) E.length c) none (some (.int .i64 (i : Int))) none).run Try.prog W = .ok (.slice (some ⟨g, 0, none⟩) i c) W) ∧
      (∀ W, (Instr.slice 106 (.slice (some ⟨g, 0, none⟩) E.length c) (some (.int .i64 ((i : Int) + 1))) none none).run Try.prog W = .ok (.slice (some ad) (E.length - (i + 1)) (c - (i + 1))) W) ∧
      (∀ ty, (Builtin.append_ #[106, 106] ty #[.slice (some ⟨g, 0, none⟩) i c, .slice (some ad) (E.length - (i + 1)) (c - (i + 1))]).run Try.prog w = .ok (.slice (some ⟨g, 0, none⟩) m c) w2) ∧
      (∃ cs, Blk w2 g 126 cs ∧ cs.size = c * 3 ∧ cs.toList.take (m * 3) = cellsOf entV (E.eraseIdx i)) ∧ Turned (fun k => k = g) w w2 := by
  obtain ⟨i0, hi0, hz0, hz1, hz2⟩ := info_parts info_ent
  have HR := ReadsT.of_own (V := entV) (fun _ => rfl) O
  rcases O.2 with ⟨h, _⟩ | ⟨g', cap, cur, hv, hb, hh, hnc, hcm, hsz, ht⟩
  · cases h
  have hv' := hv
  injection hv' with hA _ hc
  injection hA with hA
  injection hA with hg
  subst hg hc
  have he : Try.prog.elem 106 = 126 := by simp [Program.elem, Try.underlying106]
  have hap : c ≠ 0 := by omega
  obtain ⟨ad, had, hnews⟩ : ∃ ad, (if c = i + 1 then some (⟨g, 0, none⟩ : Addr) else some ⟨g, (i + 1) * 3, none⟩) = some ad ∧ ∀ j u, (cellsOf entV (E.drop (i + 1)))[j]? = some u → w.cell? (ad.add j) = some u := by
    by_cases hci : c = i + 1
    · refine ⟨_, by rw [if_pos hci], fun j u hu => ?_⟩
      rw [show E.drop (i + 1) = [] from List.drop_eq_nil_of_le (by omega)] at hu
      simp [cellsOf] at hu
    · refine ⟨_, by rw [if_neg hci], fun j u hu => ?_⟩
      have hcl : (cellsOf entV E)[(i + 1) * 3 + j]? = some u := by
        have h : cellsOf entV E = cellsOf entV (E.take (i + 1)) ++ cellsOf entV (E.drop (i + 1)) := by rw [← cellsOf_append, List.take_append_drop]
        have hl : (cellsOf entV (E.take (i + 1))).length = (i + 1) * 3 := by rw [cellsOf_length (size := 3) (fun _ => rfl), List.length_take, Nat.min_eq_left (by omega)]
        rw [h, List.getElem?_append_right (by omega), hl]
        simpa using hu
      have hjl : (i + 1) * 3 + j < E.length * 3 := by
        have := (List.getElem?_eq_some_iff.1 hcl).1
        rwa [cellsOf_length (size := 3) (fun _ => rfl)] at this
      rw [Addr.add_lit, cell_of_row w g _ cur 126 (0, 0) hh]
      rw [← ht, List.getElem?_take_of_lt hjl] at hcl
      simpa using hcl
  have hnl : (cellsOf entV (E.drop (i + 1))).length = (E.length - (i + 1)) * i0.size := by rw [hz1, cellsOf_length (size := 3) (fun _ => rfl), List.length_drop]
  have hn1 : ∀ u ∈ cellsOf entV (E.drop (i + 1)), u.oneCell' = true := cellsOf_mem (Q := fun u => u.oneCell' = true) entV_one _
  have hrun := fun ty => run_append_room (P := Try.prog) w 106 ty 126 i0 Try.underlying106 hi0 g i c cur hh ad (E.length - (i + 1)) (c - (i + 1)) (cellsOf entV (E.drop (i + 1))) hnl hnews hn1 (by omega) (by rw [hnl, hz1, hsz]; omega)
  obtain ⟨cs, hcs⟩ : ∃ cs, cs = (List.take (i * i0.size) cur.toList ++ cellsOf entV (List.drop (i + 1) E) ++ List.drop (i * i0.size + (cellsOf entV (List.drop (i + 1) E)).length) cur.toList).toArray := ⟨_, rfl⟩
  rw [← hcs] at hrun
  refine ⟨ad, w.setRow g cs, fun W => ?_, fun W => ?_, fun ty => ?_, ⟨cs, setRow_blk (t := 126) hh cs, ?_, ?_⟩, setRow_turned w g cs⟩
  · rw [run_slice_h W 106 _ _ c (by rw [he]; exact Try.underlying106) .i64 (i : Int) (by omega) (by omega), he]
    simp [sizeOf, typeInfo, hi0, hz1, sliced, Addr.add_lit]
  · rw [run_slice_l W 106 _ _ c (by rw [he]; exact Try.underlying106) .i64 ((i : Int) + 1) (by omega) (by omega), he]
    have hto : ((i : Int) + 1).toNat = i + 1 := by omega
    simp [sizeOf, typeInfo, hi0, hz1, sliced, hto, Addr.add_lit]
    exact had
  · have h := hrun ty
    rw [show i + (E.length - (i + 1)) = m by omega] at h
    exact h
  · rw [hcs, List.size_toArray, List.length_append, List.length_append, List.length_take, List.length_drop, Array.length_toList, hnl, hz1, hsz]
    omega
  · have h1 : cur.toList.take (i * 3) = cellsOf entV (E.take i) := by
      rw [← cellsOf_take (size := 3) (fun _ => rfl) E i (by omega), ← ht, List.take_take, Nat.min_eq_left (by omega)]
    have h2 : (cellsOf entV (E.take i) ++ cellsOf entV (E.drop (i + 1))).length = m * 3 := by
      rw [List.length_append, hnl, hz1, cellsOf_length (size := 3) (fun _ => rfl), List.length_take, Nat.min_eq_left (by omega)]
      omega
    rw [hcs, hz1, h1, List.toList_toArray, List.take_left' h2, ← cellsOf_append, ← List.eraseIdx_eq_take_drop_succ]

def zEntL : List Value := [.int .u16 0, .slice none 0 0, .int .i64 0]
theorem zeros_ent : (Builtin.zeroCells (Value.agg #[.int .u16 0, .slice none 0 0, .int .i64 0]).cells 1).toList = zEntL := by kernel_rfl
def DelPost (w : World) (base g c i : Nat) (E : List TEnt) (e : Ending) (w' : World) : Prop :=
  e = .returned (.slice (some ⟨g, 0, none⟩) (E.eraseIdx i).length c) ∧ w'.ownsRow base 126 3 (.slice (some ⟨g, 0, none⟩) (E.eraseIdx i).length c) (E.eraseIdx i).length (cellsOf entV (E.eraseIdx i)) ∧ Turned (fun k => k = g) w w'
set_option maxRecDepth 100000 in
set_option maxHeartbeats 1000000 in
theorem del_any {w : World} {base g c : Nat} {E : List TEnt} {i : Nat} (O : w.ownsRow base 126 3 (.slice (some ⟨g, 0, none⟩) E.length c) E.length (cellsOf entV E)) (hi : i < E.length) (hE : E.length ≤ 1000000) :
    Calls Try.prog 75 #[.slice (some ⟨g, 0, none⟩) E.length c, .int .i64 i, .int .i64 ((i : Int) + 1)] w (DelPost w base g c i E) := by
  obtain ⟨i0, hi0, hz0, hz1, hz2⟩ := info_parts info_ent
  obtain ⟨m, hm⟩ : ∃ m, E.length = m + 1 := ⟨E.length - 1, by omega⟩
  obtain ⟨p1, p2, _⟩ := own_cap O
  unfold maxLen at p2
  have hbase := own_base O (g := g) (by simp [Value.ownBlock])
  have Od := own_turned O ((Turned.refl (fun _ => False) w).drew) (fun _ _ h => h)
  obtain ⟨ad, w2, z2, z3, hap, ⟨cs, hB2, hcs, htk⟩, hT2⟩ := del_run Od hi hm
  have he : Try.prog.elem 106 = 126 := by simp [Program.elem, Try.underlying106]
  have hst := run_storeCells_at Try.prog g (m * 3) 126 zEntL 0 cs w2 hB2 (by show m * 3 + 0 + 3 ≤ _; omega) (by simp [zEntL, Value.oneCell'])
  obtain ⟨cs3, hcs3⟩ : ∃ cs3, cs3 = (cs.toList.take (m * 3 + 0) ++ zEntL ++ cs.toList.drop (m * 3 + 0 + zEntL.length)).toArray := ⟨_, rfl⟩
  rw [← hcs3] at hst
  have hcl : ∀ ty, (Builtin.clear_ #[106] ty #[.slice (some ⟨g, m * 3, none⟩) 1 (c - m)]).run Try.prog w2 = .ok (.tuple #[]) (w2.setRow g cs3) := fun ty => by
    simp [Builtin.clear_, run_underlying Try.underlying106, zeros_ent, hst]
  have HF : Hid ((w2.setRow g cs3).ownsRow base 126 3 (.slice (some ⟨g, 0, none⟩) (E.eraseIdx i).length c) (E.eraseIdx i).length (cellsOf entV (E.eraseIdx i)) ∧ Turned (fun k => k = g) w (w2.setRow g cs3) ∧ (E.eraseIdx i).length = m) := by
    have hln : (E.eraseIdx i).length = m := by rw [List.length_eraseIdx_of_lt hi]; omega
    have hsz3 : cs3.size = c * 3 := by
      rw [hcs3, List.size_toArray, List.length_append, List.length_append, List.length_take, List.length_drop, Array.length_toList, hcs]
      rw [show zEntL.length = 3 from rfl]
      omega
    refine ⟨⟨by rw [cellsOf_length (size := 3) (fun _ => rfl)], .inr ⟨g, c, cs3, rfl, hbase, setRow_blk hB2 cs3, by omega, by unfold maxLen; omega, hsz3, ?_⟩⟩, ((Turned.refl (fun k => k = g) w).drew.then_ hT2 (fun _ _ h => h)).then_ (setRow_turned w2 g cs3) (fun _ _ h => h), hln⟩
    have hmt : (cs.toList.take (m * 3)).length = m * 3 := by rw [List.length_take, Array.length_toList, hcs]; omega
    rw [hln, hcs3, List.toList_toArray, Nat.add_zero, List.append_assoc, List.take_left' hmt]
    exact htk
  obtain ⟨v1, z1⟩ : ∃ v1, ∀ W, (Instr.slice 106 (.slice (some ⟨g, 0, none⟩) E.length c) (some (.int .i64 (i : Int))) (some (.int .i64 ((i : Int) + 1))) (some (.int .i64 (E.length : Int)))).run Try.prog W = .ok v1 W :=
    ⟨sliced (some ⟨g, 0, none⟩) i (i + 1) E.length 3, fun W => by
      rw [run_slice_lhm W 106 _ _ c (by rw [he]; exact Try.underlying106) .i64 .i64 .i64 (i : Int) ((i : Int) + 1) (E.length : Int) (by omega) (by omega) (by omega) (by omega), he]
      have hto : ((i : Int) + 1).toNat = i + 1 := by omega
      simp [sizeOf, typeInfo, hi0, hz1, hto]⟩
  have z4 : ∀ W, (Instr.slice 106 (.slice (some ⟨g, 0, none⟩) m c) (some (.int .i64 (m : Int))) (some (.int .i64 (E.length : Int))) none).run Try.prog W = .ok (.slice (some ⟨g, m * 3, none⟩) 1 (c - m)) W := fun W => by
    rw [run_slice_lh W 106 _ _ c (by rw [he]; exact Try.underlying106) .i64 .i64 (m : Int) (E.length : Int) (by omega) (by omega) (by omega), he]
    have h1 : E.length - m = 1 := by omega
    have h2 : c ≠ m := by omega
    simp [sizeOf, typeInfo, hi0, hz1, sliced, Addr.add_lit, h1, h2]
  have hne : ((i : Int) == (i : Int) + 1) = false := by rw [beq_eq_false_iff_ne]; omega
  clear hi0 hz0 hz1 hz2 he hst hcs3 htk hcs hB2 hT2 Od O hbase p1 p2 hm
  generalize E.length = n at z1 z2 z3 z4 hap
  generalize n - (i + 1) = n' at z3 hap
  go_enter Try.func75, Try.ntmps75
  go_wp2_with fail
  refine wp_region_held_drew (S := fun W => True) (by kernel_rfl) trivial (fun hHeld => ?_)
  refine held_take 0 20 (v := ?_) ⟨_, rfl, rfl, by rfl, ?_⟩ (by kernel_rfl) (by kernel_rfl) (by kernel_rfl) (fun _ _ _ h => h) hHeld ?_
  rotate_left
  · (intro w hSw; (try dsimp only at hSw); go_simp; try with_reducible rfl)
  simp only [Act.put, List.setIfInBounds_toArray, List.set_cons_zero, List.set_cons_succ]
  refine held_take 1 21 (v := ?_) ⟨_, rfl, rfl, by rfl, ?_⟩ (by kernel_rfl) (by kernel_rfl) (by kernel_rfl) (fun _ _ _ h => h) hHeld ?_
  rotate_left
  · (intro w hSw; (try dsimp only at hSw); go_simp; try with_reducible rfl)
  simp only [Act.put, List.setIfInBounds_toArray, List.set_cons_zero, List.set_cons_succ]
  refine held_take 2 22 (v := ?_) ⟨_, rfl, rfl, by rfl, ?_⟩ (by kernel_rfl) (by kernel_rfl) (by kernel_rfl) (fun _ _ _ h => h) hHeld ?_
  rotate_left
  · (intro w hSw; (try dsimp only at hSw); go_simp; try with_reducible rfl)
  simp only [Act.put, List.setIfInBounds_toArray, List.set_cons_zero, List.set_cons_succ]
  refine held_take 3 23 (v := ?_) ⟨_, rfl, rfl, by rfl, ?_⟩ (by kernel_rfl) (by kernel_rfl) (by kernel_rfl) (fun _ _ _ h => h) hHeld ?_
  rotate_left
  · (intro w hSw; (try dsimp only at hSw); go_simp; try with_reducible rfl)
  simp only [Act.put, List.setIfInBounds_toArray, List.set_cons_zero, List.set_cons_succ]
  refine held_take 4 24 (v := ?_) ⟨_, rfl, rfl, by rfl, ?_⟩ (by kernel_rfl) (by kernel_rfl) (by kernel_rfl) (fun _ _ _ h => h) hHeld ?_
  rotate_left
  · (intro w hSw; (try dsimp only at hSw); go_simp; try with_reducible rfl)
  simp only [Act.put, List.setIfInBounds_toArray, List.set_cons_zero, List.set_cons_succ]
  refine held_take 5 25 (v := ?_) ⟨_, rfl, rfl, by rfl, ?_⟩ (by kernel_rfl) (by kernel_rfl) (by kernel_rfl) (fun _ _ _ h => h) hHeld ?_
  rotate_left
  · (intro w hSw; (try dsimp only at hSw); go_simp; try with_reducible rfl)
  simp only [Act.put, List.setIfInBounds_toArray, List.set_cons_zero, List.set_cons_succ]
  refine wpAnyH_ready (rs := [6]) (by kernel_rfl) (by simp) ?_
  refine AllReadyH.cons (o := _) rfl (fun K hK => ?_) AllReadyH.nil
  rw [if_pos (by rfl)]
  refine wp_append_run (.tmp 22) (.tmp 25) 106 rfl rfl rfl (hap _) ?_
  rw [put_some 26 (by rfl)]
  dsimp only [Act.put, List.setIfInBounds_toArray, List.set_cons_zero, List.set_cons_succ]
  refine hK.out _ _ trivial (fun hHeld => ?_)
  clear hK K
  refine held_take 7 0 (v := ?_) ⟨_, rfl, rfl, by rfl, ?_⟩ (by kernel_rfl) (by kernel_rfl) (by kernel_rfl) (fun _ _ _ h => h) hHeld ?_
  rotate_left
  · (intro w hSw; (try dsimp only at hSw); go_simp; try with_reducible rfl)
  simp only [Act.put, List.setIfInBounds_toArray, List.set_cons_zero, List.set_cons_succ]
  refine wpAnyH_done (by kernel_rfl) ?_ _
  go_wp2_with (simp only [hcl])
  go_ret
  obtain ⟨f1, f2, f3⟩ := HF.out
  exact ⟨by rw [f3]; rfl, f1, f2⟩
end Go.Proofs.Ytnicfiochnkjbaa
