/- The cache: what it holds; New, use, Len, Clear. -/
import Derived.Test.YtnicfiochnkjbaaC10
namespace Go.Proofs.Ytnicfiochnkjbaa
open Go.RowKit
open Go.Maps (Keyed)

/-- An answer, of its question. -/
structure Ent where
  q : Qu
  told : Int
  ver : Int
  turn : Int
  till : Int
/-- The time of a use as a cell holds it: int goes round. -/
@[irreducible] def wu (u : Int) : Int := (u + 9223372036854775808) % 18446744073709551616 - 9223372036854775808
theorem wu_small {u : Int} (h : 0 ≤ u) (h2 : u ≤ 9223372036854775807) : wu u = u := by unfold wu; omega
theorem wu_bounds (u : Int) : -9223372036854775808 ≤ wu u ∧ wu u ≤ 9223372036854775807 := by unfold wu; omega
theorem wu_succ {u : Int} (h : wu u < 9223372036854775807) : wu u + 1 = wu (u + 1) := by unfold wu at h ⊢; omega
theorem wu_round {u : Int} (h : wu u = 9223372036854775807) : -9223372036854775808 = wu (u + 1) := by unfold wu at h ⊢; omega
def ansV (x : Ent) (u : Int) : Value := .agg #[.int .i64 x.told, .int .i64 x.ver, .int .i64 x.turn, .int .i64 x.till, .int .i64 (wu u)]
def entP (y : Ent × Int) : Value × Value := (quV y.1.q, ansV y.1 y.2)
def entOk (x : Ent) : Prop := setR x.q.who = true ∧ quOk x.q
/-- A cache's answers, used longest ago first, each with the time of its use. -/
structure CacheIs (w : World) (p mb : Nat) (room uses : Int) (Y : List (Ent × Int)) : Prop where
  blk : Blk w p 90 #[.int .i64 room, .int .i64 (wu uses), .map (some mb)]
  map : ∃ l, MapAt w Try.prog 94 mb l ∧ l.Perm (Y.map entP)
  rise : Y.Pairwise (fun a b => a.2 < b.2)
  all : ∀ y ∈ Y, y.2 ≤ uses ∧ entOk y.1
  nn : 0 ≤ uses
  pos : ∀ y ∈ Y, 0 ≤ y.2
section
variable {w w' : World} {p mb : Nat} {room uses : Int} {Y : List (Ent × Int)}
/-- The blocks that a cache is made of. -/
def CFoot (p mb : Nat) : Nat → Prop := fun k => k = p ∨ k = mb
theorem CacheIs.turned {S : Nat → Prop} (h : CacheIs w p mb room uses Y) (hT : Turned S w w') (h1 : ¬ S p) (h2 : ¬ S mb) : CacheIs w' p mb room uses Y := by
  obtain ⟨l, hl, hp⟩ := h.map
  exact ⟨h.blk.turned hT h1, ⟨l, hl.turned hT h2, hp⟩, h.rise, h.all, h.nn, h.pos⟩
theorem CacheIs.kept (h : CacheIs w p mb room uses Y) (hK : Kept w w') : CacheIs w' p mb room uses Y := h.turned hK (fun h => h) (fun h => h)
theorem CacheIs.drewN (h : CacheIs w p mb room uses Y) (n : Nat) : CacheIs (w.drewN n) p mb room uses Y := h.kept ((Turned.refl _ w).drewN n)
theorem CacheIs.lt (h : CacheIs w p mb room uses Y) : p < w.heap.size ∧ mb < w.heap.size := by
  obtain ⟨l, hl, _⟩ := h.map
  exact ⟨h.blk.lt, hl.lt⟩
theorem CacheIs.ne (h : CacheIs w p mb room uses Y) : p ≠ mb := by
  obtain ⟨l, hl, _⟩ := h.map
  exact hl.blk_ne h.blk
theorem CacheIs.cells (h : CacheIs w p mb room uses Y) : w.cell? ⟨p, 0, none⟩ = some (.int .i64 room) ∧ w.cell? ⟨p, 1, none⟩ = some (.int .i64 (wu uses)) ∧ w.cell? ⟨p, 2, none⟩ = some (.map (some mb)) :=
  ⟨h.blk.cell 0, h.blk.cell 1, h.blk.cell 2⟩
theorem CacheIs.keys (h : CacheIs w p mb room uses Y) : Y.Pairwise (fun a b => a.1.q ≠ b.1.q) := by
  obtain ⟨l, hl, hp⟩ := h.map
  have h1 := hp.pairwise hl.nodup (fun {_ _} h => Ne.symm h)
  rw [List.pairwise_map] at h1
  exact h1.imp (fun hne e => hne (by unfold entP; rw [e]))
theorem ent_len {l : List (Value × Value)} (hp : l.Perm (Y.map entP)) : l.length = Y.length := by
  rw [hp.length_eq, List.length_map]
/-- One more use. -/
theorem CacheIs.used (h : CacheIs w p mb room uses Y) {u : Int} (hu : uses ≤ u) : CacheIs (w.setCell ⟨p, 1, none⟩ (.int .i64 (wu u))) p mb room u Y := by
  obtain ⟨l, hl, hp⟩ := h.map
  exact ⟨h.blk.set_ 1 _, ⟨l, hl.far (p := ⟨p, 1, none⟩) h.ne _, hp⟩, h.rise, fun y hy => ⟨Int.le_trans (h.all y hy).1 hu, (h.all y hy).2⟩, Int.le_trans h.nn hu, h.pos⟩

set_option maxRecDepth 100000 in
theorem use_any (h : CacheIs w p mb room uses Y) :
    Calls Try.prog 46 #[.pointer (some ⟨p, 0, none⟩)] w fun e w' => e = .returned (.int .i64 (wu (uses + 1))) ∧ CacheIs w' p mb room (uses + 1) Y ∧ Turned (fun k => k = p) w w' := by
  obtain ⟨c0, c1, c2⟩ := h.cells
  have f1 := h.blk.frozen 1
  have n0 := h.nn
  have H2 := Lib.hid (h.used (u := uses + 1) (by omega))
  have HT : Hid (Turned (fun k => k = p) w (w.setCell ⟨p, 1, none⟩ (.int .i64 (wu (uses + 1))))) := Lib.hid ((Turned.refl (fun k => k = p) w).setCell (p := ⟨p, 1, none⟩) (fun _ => rfl) _)
  have hb := wu_bounds uses
  have HS := Lib.hid (fun h => wu_succ (u := uses) h)
  have HR := Lib.hid (fun h => wu_round (u := uses) h)
  clear c0 c2 h
  generalize wu (uses + 1) = v' at H2 HT HS HR
  generalize wu uses = v at c1 HS HR hb
  by_cases hv : v < 9223372036854775807
  · obtain rfl := HS.out hv
    clear HS HR
    go_enter Try.func46, Try.ntmps46
    go_wp2_with fail
    go_ret
    exact ⟨rfl, H2.out, HT.out⟩
  · obtain rfl : v = 9223372036854775807 := by omega
    have hw : wrap64 9223372036854775808 = v' := (by kernel_rfl : wrap64 9223372036854775808 = -9223372036854775808).trans (HR.out rfl)
    subst hw
    clear HS HR hv hb
    go_enter Try.func46, Try.ntmps46
    go_wp2_with fail
    go_ret
    exact ⟨rfl, H2.out, HT.out⟩

set_option maxRecDepth 100000 in
theorem len_cache (h : CacheIs w p mb room uses Y) :
    Calls Try.prog 17 #[.pointer (some ⟨p, 0, none⟩)] w fun e w' => e = .returned (.int .i64 (Y.length : Int)) ∧ w = w' := by
  obtain ⟨c0, c1, c2⟩ := h.cells
  obtain ⟨l, hl, hp⟩ := h.map
  have hn := ent_len hp
  clear c0 c1 h
  go_enter Try.func17, Try.ntmps17
  go_wp2_with (at_len; refine wpList_len_raw _ rfl _ 88 rfl 94 99 Try.underlying88 mb l Y.length hn rfl hl ?_)
  go_ret
  exact ⟨rfl, rfl⟩

set_option maxRecDepth 100000 in
theorem clear_cache (h : CacheIs w p mb room uses Y) :
    Calls Try.prog 25 #[.pointer (some ⟨p, 0, none⟩)] w fun e w' => e = .returned (.tuple #[]) ∧ CacheIs w' p mb room uses [] ∧ Turned (fun k => k = mb) w w' := by
  obtain ⟨c0, c1, c2⟩ := h.cells
  obtain ⟨l, hl, hp⟩ := h.map
  obtain ⟨w2, hrun, hm2, hT2, _⟩ := hl.clear Try.underlying88 0
  have H2 : Hid (CacheIs w2 p mb room uses []) := ⟨h.blk.turned hT2 (fun e => h.ne e), ⟨[], hm2, List.Perm.refl _⟩, List.Pairwise.nil, fun y hy => (by cases hy), h.nn, fun y hy => (by cases hy)⟩
  have HT := Lib.hid hT2
  clear c0 c1 h hm2 hT2
  go_enter Try.func25, Try.ntmps25
  go_wp2_with fail
  go_end0
  exact ⟨rfl, H2.out, HT.out⟩
end

/-- What New tells. -/
def NewPost (room : Int) (w : World) (e : Ending) (w' : World) : Prop :=
  ((room < 1 ∨ 100 < room) ∧ e = .returned (.pointer none) ∧ w = w') ∨ (1 ≤ room ∧ room ≤ 100) ∧ ∃ p mb, e = .returned (.pointer (some ⟨p, 0, none⟩)) ∧ CacheIs w' p mb room 0 [] ∧ Kept w w' ∧ w.heap.size ≤ p ∧ w.heap.size ≤ mb
set_option maxRecDepth 100000 in
theorem new_cache (room : Int) (w : World) (_hr : i64 room) :
    Calls Try.prog 14 #[.int .i64 room] w (NewPost room w) := by
  by_cases h1 : 1 ≤ room
  · have d1 : decide (room < 1) = false := by rw [decide_eq_false_iff_not]; omega
    by_cases h2 : room ≤ 100
    · have d2 : decide (100 < room) = false := by rw [decide_eq_false_iff_not]; omega
      have hmm := @run_makeMap Try.prog
      have HC : Hid (CacheIs ((w.alloc (.map #[] 0)).alloc (.cells #[.int .i64 room, .int .i64 0, .map (some w.heap.size)] 90)) (w.heap.size + 1) w.heap.size room 0 []) := by
        have hb := Blk.new (w.alloc (.map #[] 0)) 90 #[.int .i64 room, .int .i64 0, .map (some w.heap.size)]
        rw [World.size_alloc] at hb
        refine ⟨?_, ⟨[], (MapAt.new w _ _).alloc _, List.Perm.refl _⟩, List.Pairwise.nil, fun y hy => (by cases hy), by omega, fun y hy => (by cases hy)⟩
        rw [wu_small (by omega) (by omega)]
        exact hb
      have HK : Hid (Kept w ((w.alloc (.map #[] 0)).alloc (.cells #[.int .i64 room, .int .i64 0, .map (some w.heap.size)] 90))) := Lib.hid (((Turned.refl _ w).alloc _).alloc _)
      go_enter Try.func14, Try.ntmps14
      go_wp2_with fail
      go_ret
      exact .inr ⟨⟨h1, h2⟩, _, _, rfl, HC.out, HK.out, by omega, Nat.le_refl _⟩
    · have d2 : decide (100 < room) = true := by rw [decide_eq_true_eq]; omega
      go_enter Try.func14, Try.ntmps14
      go_wp2_with fail
      go_ret
      exact .inl ⟨.inr (by omega), rfl, rfl⟩
  · have d1 : decide (room < 1) = true := by rw [decide_eq_true_eq]; omega
    go_enter Try.func14, Try.ntmps14
    go_wp2_with fail
    go_ret
    exact .inl ⟨.inl (by omega), rfl, rfl⟩
end Go.Proofs.Ytnicfiochnkjbaa
