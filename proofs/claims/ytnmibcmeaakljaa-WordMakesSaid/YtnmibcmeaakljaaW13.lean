/- The law's awake. -/
import Derived.Test.YtnmibcmeaakljaaW12
namespace Go.Proofs.Ytnmibcmeaakljaa
open Go.RowKit

theorem reads_new {α : Type} {V : α → Value} (hV : ∀ x, (V x).cells = #[V x]) (W : World) (t : TypeId) (xs : List α) (cs : Array Value) (h : cs.toList = xs.map V) : ReadsT V (W.alloc (.cells cs t)) (W.alloc (.cells cs t)).heap.size 1 (some ⟨W.heap.size, 0, none⟩) xs := fun j hj => by
  refine ⟨W.heap.size, 0, rfl, by simp, fun i hi => ?_⟩
  obtain rfl : i = 0 := by omega
  have hb := (Blk.new W t cs).cell (0 + j * 1 + 0)
  rw [hb, hV]
  have : cs[j]? = some (V xs[j]) := by
    rw [← Array.getElem?_toList, h, List.getElem?_map, List.getElem?_eq_getElem hj]
    rfl
  simpa using this
theorem alloc_kept (W : World) (o : Obj) : Kept W (W.alloc o) := (Turned.refl _ _).alloc o

theorem u16s {l : List Int} (h : l.all (fun x => decide (0 ≤ x ∧ x ≤ 65535)) = true) : ∀ x ∈ l, u16 x := fun x hx => of_decide_eq_true (p := 0 ≤ x ∧ x ≤ 65535) (List.all_eq_true.1 h x hx)
theorem of_lit (W : World) (l : List Int) (cs : Array Value) (c : Nat) (hc : cs.toList = l.map atV) (hl : l.length ≤ 1000000) (hu : l.all (fun x => decide (0 ≤ x ∧ x ≤ 65535)) = true) :
    Calls Try.prog 25 #[.slice (some ⟨W.heap.size, 0, none⟩) l.length c] (W.alloc (.cells cs 32)) fun e w' => e = .returned (.string (ofR l)) ∧ Kept W w' :=
  (of_any _ _ l _ hl (reads_new (fun _ => rfl) W _ l cs hc) (u16s hu)).mono fun _ _ h => ⟨h.1, (alloc_kept W _).then_ h.2 (fun _ _ h => h)⟩
theorem cat_lit (W : World) (l : List ByteArray) (cs : Array Value) (c : Nat) (hc : cs.toList = l.map Value.string) (hl : l.length ≤ 1000) (hu : ∀ s ∈ l, s.size ≤ 1000000) :
    Calls Try.prog 27 #[.slice (some ⟨W.heap.size, 0, none⟩) l.length c] (W.alloc (.cells cs 22)) fun e w' => e = .returned (.tuple #[.string (catR l).1, .int .i64 (catR l).2]) ∧ Kept W w' :=
  (cat_any _ _ l _ hl hu (reads_new (fun _ => rfl) W _ l cs hc)).mono fun _ _ h => ⟨h.1, (alloc_kept W _).then_ h.2 (fun _ _ h => h)⟩
theorem Turned.to {a b c : World} (h : Kept a b) (k : Kept b c) : Kept a c := h.then_ k (fun _ _ h => h)

set_option maxRecDepth 100000 in
set_option maxHeartbeats 4000000 in
theorem awake_any (w : World) : Calls Try.prog 10 #[] w fun e w' => e = .returned (.bool true) ∧ Kept w w' := by
  have f1 : catR [ofR [8193, 1], ofR [2]] = (ofR [8193, 1, 2], 0) := by kernel_rfl
  have f2 : swapR (ofR [1, 2, 3]) 1 1 (ofR [9, 9]) = (ofR [1, 9, 9, 3], 0) := by kernel_rfl
  have f3 : swapR (ofR [8193, 1]) 2 1 ⟨#[]⟩ = (⟨#[]⟩, 5) := by kernel_rfl
  have f4 : subR (ofR [8193, 1, 2]) 1 2 = (ofR [1, 2], 0) := by kernel_rfl
  have f5 : lenR (ofR [8193, 1]) = 2 := by kernel_rfl
  have f6 : atR (ofR [8193, 1]) 1 = 1 := by kernel_rfl
  have f7 : atR (ofR [8193, 1]) 2 = 0 := by kernel_rfl
  have f8 : mayR (ofR [8193, 1]) = true := by kernel_rfl
  have f9 : mayR ⟨#[]⟩ = false := by kernel_rfl
  have f10 : findR (ofR [1, 2, 1, 2]) (ofR [1, 2]) 1 = 2 := by kernel_rfl
  have f11 : lessR (ofR [8193, 1]) (ofR [8193, 1, 2]) = true := by kernel_rfl
  have f12 : lessR (ofR [8193, 1, 2]) (ofR [8193, 1]) = false := by kernel_rfl
  have f13 : atomsR (ofR [8193, 1, 2]) = [8193, 1, 2] := by kernel_rfl
  have d1 : ((ofR [8193, 1]).toList == [32, 1, 0, 1]) = true := by rw [ByteArray.toList_eq]; kernel_rfl
  have F := Lib.hid (And.intro f1 (And.intro f2 (And.intro f3 (And.intro f4 (And.intro f5 (And.intro f6 (And.intro f7 (And.intro f8 (And.intro f9 (And.intro f10 (And.intro f11 (And.intro f12 f13))))))))))))
  clear f1 f2 f3 f4 f5 f6 f7 f8 f9 f10 f11 f12 f13
  have i64s : ∀ n : Int, 0 ≤ n → n ≤ 10 → i64 n := fun n h1 h2 => ⟨by omega, by omega⟩
  have I := Lib.hid i64s
  clear i64s
  go_enter Try.func10, Try.ntmps10
  go_wp2_with fail
  refine (of_lit w [8193, 1] _ _ rfl (by decide) rfl).mono ?_
  rintro e w1 ⟨rfl, hK1⟩
  go_wp2_with fail
  refine (of_lit w1 [2] _ _ rfl (by decide) rfl).mono ?_
  rintro e w2 ⟨rfl, K2⟩
  have hK2 := hK1.to K2
  clear K2 hK1
  go_wp2_with fail
  refine (cat_lit w2 [ofR [8193, 1], ofR [2]] _ _ rfl (by decide) (by decide)).mono ?_
  rw [F.out.1]
  rintro e w3 ⟨rfl, K3⟩
  have hK3 := hK2.to K3
  clear K3 hK2
  go_wp2_with fail
  refine (of_lit w3 [1, 2, 3] _ _ rfl (by decide) rfl).mono ?_
  rintro e w4 ⟨rfl, K4⟩
  have hK4 := hK3.to K4
  clear K4 hK3
  go_wp2_with fail
  refine (of_lit w4 [9, 9] _ _ rfl (by decide) rfl).mono ?_
  rintro e w5 ⟨rfl, K5⟩
  have hK5 := hK4.to K5
  clear K5 hK4
  go_wp2_with fail
  refine (swap_any (ofR [1, 2, 3]) 1 1 (ofR [9, 9]) w5 (by decide) (by decide) (I.out _ (by decide) (by decide)) (I.out _ (by decide) (by decide))).mono ?_
  rw [F.out.2.1]
  rintro e w6 ⟨rfl, n6, rfl⟩
  have hK6 := hK5.drewN n6
  obtain ⟨w6, hw6⟩ : ∃ W, W = w5.drewN n6 := ⟨_, rfl⟩
  rw [← hw6] at hK6 ⊢
  clear hK5 hw6
  go_wp2_with fail
  refine (swap_any (ofR [8193, 1]) 2 1 ⟨#[]⟩ w6 (by decide) (by decide) (I.out _ (by decide) (by decide)) (I.out _ (by decide) (by decide))).mono ?_
  rw [F.out.2.2.1]
  rintro e w7 ⟨rfl, n7, rfl⟩
  have hK7 := hK6.drewN n7
  obtain ⟨w7, hw7⟩ : ∃ W, W = w6.drewN n7 := ⟨_, rfl⟩
  rw [← hw7] at hK7 ⊢
  clear hK6 hw7
  go_wp2_with fail
  refine (sub_any (ofR [8193, 1, 2]) 1 2 w7 (by decide) (I.out _ (by decide) (by decide)) (I.out _ (by decide) (by decide))).mono ?_
  rw [F.out.2.2.2.1]
  rintro e w8 ⟨rfl, rfl⟩
  go_wp2_with fail
  refine (len_any (ofR [8193, 1]) w7 (by decide)).mono ?_
  rw [F.out.2.2.2.2.1]
  rintro e w8 ⟨rfl, rfl⟩
  go_wp2_with fail
  refine (at_any (ofR [8193, 1]) 1 w7 (by decide) (I.out _ (by decide) (by decide))).mono ?_
  rw [F.out.2.2.2.2.2.1]
  rintro e w8 ⟨rfl, n8, rfl⟩
  have hK8 := hK7.drewN n8
  obtain ⟨w8, hw8⟩ : ∃ W, W = w7.drewN n8 := ⟨_, rfl⟩
  rw [← hw8] at hK8 ⊢
  clear hK7 hw8
  go_wp2_with fail
  refine (at_any (ofR [8193, 1]) 2 w8 (by decide) (I.out _ (by decide) (by decide))).mono ?_
  rw [F.out.2.2.2.2.2.2.1]
  rintro e w9 ⟨rfl, n9, rfl⟩
  have hK9 := hK8.drewN n9
  obtain ⟨w9, hw9⟩ : ∃ W, W = w8.drewN n9 := ⟨_, rfl⟩
  rw [← hw9] at hK9 ⊢
  clear hK8 hw9
  go_wp2_with fail
  refine (may_any (ofR [8193, 1]) w9 (by decide)).mono ?_
  rw [F.out.2.2.2.2.2.2.2.1]
  rintro e w10 ⟨rfl, n10, rfl⟩
  have hK10 := hK9.drewN n10
  obtain ⟨w10, hw10⟩ : ∃ W, W = w9.drewN n10 := ⟨_, rfl⟩
  rw [← hw10] at hK10 ⊢
  clear hK9 hw10
  go_wp2_with fail
  refine (may_any ⟨#[]⟩ w10 (by decide)).mono ?_
  rw [F.out.2.2.2.2.2.2.2.2.1]
  rintro e w11 ⟨rfl, n11, rfl⟩
  have hK11 := hK10.drewN n11
  obtain ⟨w11, hw11⟩ : ∃ W, W = w10.drewN n11 := ⟨_, rfl⟩
  rw [← hw11] at hK11 ⊢
  clear hK10 hw11
  go_wp2_with fail
  refine (of_lit w11 [1, 2, 1, 2] _ _ rfl (by decide) rfl).mono ?_
  rintro e w12 ⟨rfl, K12⟩
  have hK12 := hK11.to K12
  clear K12 hK11
  go_wp2_with fail
  refine (of_lit w12 [1, 2] _ _ rfl (by decide) rfl).mono ?_
  rintro e w13 ⟨rfl, K13⟩
  have hK13 := hK12.to K13
  clear K13 hK12
  go_wp2_with fail
  refine (find_any (ofR [1, 2, 1, 2]) (ofR [1, 2]) 1 w13 (by decide) (by decide) (I.out _ (by decide) (by decide))).mono ?_
  rw [F.out.2.2.2.2.2.2.2.2.2.1]
  rintro e w14 ⟨rfl, rfl⟩
  go_wp2_with fail
  refine (of_lit w13 [8193, 1, 2] _ _ rfl (by decide) rfl).mono ?_
  rintro e w14 ⟨rfl, K14⟩
  have hK14 := hK13.to K14
  clear K14 hK13
  go_wp2_with fail
  refine (of_lit w14 [1, 9, 9, 3] _ _ rfl (by decide) rfl).mono ?_
  rintro e w15 ⟨rfl, K15⟩
  have hK15 := hK14.to K15
  clear K15 hK14
  go_wp2_with fail
  refine (of_lit w15 [1, 2] _ _ rfl (by decide) rfl).mono ?_
  rintro e w16 ⟨rfl, K16⟩
  have hK16 := hK15.to K16
  clear K16 hK15
  go_wp2_with fail
  refine (less_any (ofR [8193, 1]) (ofR [8193, 1, 2]) w16).mono ?_
  rw [F.out.2.2.2.2.2.2.2.2.2.2.1]
  rintro e w17 ⟨rfl, rfl⟩
  go_wp2_with fail
  refine (less_any (ofR [8193, 1, 2]) (ofR [8193, 1]) w16).mono ?_
  rw [F.out.2.2.2.2.2.2.2.2.2.2.2.1]
  rintro e w17 ⟨rfl, rfl⟩
  go_wp2_with fail
  refine (atoms_any (ofR [8193, 1, 2]) w16 (by decide)).mono ?_
  rw [F.out.2.2.2.2.2.2.2.2.2.2.2.2]
  rintro e w17 ⟨v17, rfl, O17, K17⟩
  obtain ⟨A17, c17, rfl⟩ := own_slice O17
  have hK17 := hK16.to K17
  clear K17 hK16 O17
  go_wp2_with fail
  go_ret
  exact ⟨rfl, hK17⟩
end Go.Proofs.Ytnmibcmeaakljaa
