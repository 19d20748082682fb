/- The document's cache: what it holds; without. -/
import Derived.Test.YtnicfiochnkjbaaC23
import Derived.Test.YtnicfiochnkjbaaApp
import Derived.Deep.DeepCutAuto
namespace Go.Proofs.Ytnicfiochnkjbaa
open Go.RowKit

theorem own_cap {w : World} {base e size n : Nat} {A : Option Addr} {c : Nat} {xs : List Value} (h : w.ownsRow base e size (.slice A n c) n xs) : n ≤ c ∧ c ≤ maxLen ∧ ((A = none ∧ n = 0 ∧ c = 0) ∨ ∃ g, A = some ⟨g, 0, none⟩) := by
  rcases h.2 with ⟨h, h0⟩ | ⟨g, cap, cur, hv, _, hh, hnc, hm, _⟩
  · injection h with h1 h2 h3
    exact ⟨by omega, by unfold maxLen; omega, .inl ⟨h1, h0, h3⟩⟩
  · injection hv with hA _ hc
    subst hc
    exact ⟨hnc, hm, .inr ⟨g, hA⟩⟩
theorem own_weaken {w : World} {base base' e size n : Nat} {v : Value} {xs : List Value} (h : w.ownsRow base e size v n xs) (hb : base' ≤ base) : w.ownsRow base' e size v n xs := by
  obtain ⟨h1, h2⟩ := h
  refine ⟨h1, ?_⟩
  rcases h2 with h2 | ⟨g, cap, cur, rfl, hg0, r⟩
  · exact .inl h2
  · exact .inr ⟨g, cap, cur, rfl, by omega, r⟩

structure RItem where
  q : Qu
  A : Option Addr
  c : Nat
  told : Int
  ver : Int
  turn : Int
  till : Int
def RItem.ent (x : RItem) : Ent := ⟨x.q, x.told, x.ver, x.turn, x.till⟩
def RItem.key (x : RItem) : Array Value := #[.int .i64 x.q.obj, .int .i64 x.q.op, .slice x.A x.q.who.length x.c, .int .i64 x.ver, .int .i64 x.turn]
def RItem.cs (x : RItem) : Array Value := #[.int .i64 x.q.obj, .int .i64 x.q.op, .slice x.A x.q.who.length x.c, .int .i64 x.ver, .int .i64 x.turn, .int .i64 x.told, .int .i64 x.till]
def itemV (x : RItem) : Value := .agg x.cs
theorem itemV_one : ∀ x : RItem, ∀ u ∈ (itemV x).cells.toList, u.oneCell' = true := fun x u hu => by
  simp only [itemV, RItem.cs, Value.cells, List.mem_cons, List.not_mem_nil, or_false] at hu
  rcases hu with rfl | rfl | rfl | rfl | rfl | rfl | rfl <;> rfl
theorem info_item : (Try.prog.info? 104).map (fun i => (i.zero, i.size, i.bytes)) = some (some (.agg #[.int .i64 0, .int .i64 0, .slice none 0 0, .int .i64 0, .int .i64 0, .int .i64 0, .int .i64 0]), 7, 72) := by kernel_rfl

def WoPost18 (w : World) (r k : Nat) (room : Int) (I : List RItem) (e : Ending) (w' : World) : Prop :=
  e = .returned (.tuple #[]) ∧ ∃ v', Blk w' r 50 #[v', .int .i64 room] ∧ w'.ownsRow w.heap.size 104 7 v' (I.eraseIdx k).length (cellsOf itemV (I.eraseIdx k)) ∧ Turned (fun j => j = r) w w'
set_option maxRecDepth 100000 in
set_option maxHeartbeats 1000000 in
theorem without18_any {w : World} {base r k : Nat} {room : Int} {v : Value} {I : List RItem} (B : Blk w r 50 #[v, .int .i64 room]) (O : w.ownsRow base 104 7 v I.length (cellsOf itemV I)) (hk : k < I.length) (hn : I.length ≤ 1000000) :
    Calls Try.prog 49 #[.pointer (some ⟨r, 0, none⟩), .int .i64 k] w (WoPost18 w r k room I) := by
  obtain ⟨i0, hi0, hz0, hz1, hz2⟩ := info_parts info_item
  obtain ⟨A, c, rfl⟩ := own_slice O
  obtain ⟨p1, p2, p3⟩ := own_cap O
  unfold maxLen at p2
  have HR := ReadsT.of_own (V := itemV) (fun _ => rfl) O
  have hrl := B.lt
  have c0 := B.cell 0
  rw [show (#[.slice A I.length c, .int .i64 room] : Array Value)[0]? = some (.slice A I.length c) from rfl] at c0
  obtain ⟨A1, x1, r1⟩ := slice_hi (P := Try.prog) (t := 48) Try.underlying48 hi0 hz1 HR rfl p1 k (by omega)
  obtain ⟨A3, x3, r3⟩ := slice_lo (P := Try.prog) (t := 48) Try.underlying48 hi0 hz1 HR rfl p1 ((k : Int) + 1) (k + 1) (by omega) (by omega)
  have hE := own_empty w w.heap.size 104 7 (Nat.le_refl _)
  have hT0 : Turned (fun q => w.heap.size ≤ q) w (w.alloc (.cells #[] 104)) := (Turned.refl _ _).alloc _
  have r1' := r1.below (fun q hq => hT0.block q hq (fun h => by omega))
  have e0 : (w.alloc (.cells #[] 104)).cell? ⟨r, 0, none⟩ = some (.slice A I.length c) := (hT0.cell (p := ⟨r, 0, none⟩) hrl (by simp; omega)).trans c0
  have HL1 : Hid ((I.take k).length = k) := by show (I.take k).length = k; rw [List.length_take]; omega
  have HL2 : Hid ((I.drop (k + 1)).length = I.length - (k + 1)) := by show (I.drop (k + 1)).length = _; rw [List.length_drop]
  have hsz4 := hT0.size
  have HB := Lib.hid B
  have HC0 := Lib.hid c0
  clear HR p3 O r1 B c0
  have R3 := Lib.hid r3
  clear r3
  have k0 : (0 : Int) ≤ (k : Int) := by omega
  go_enter Try.func49, Try.ntmps49
  go_upto_region 1 with (at_builtin; refine wpList_append_reads (V := itemV) rfl (.tmp 5) (.tmp 11) 48 rfl w.heap.size 104 i0 _ 7 72 Try.underlying48 hi0 hz0 hz1 hz2 rfl (by omega) (fun _ => rfl) itemV_one _ _ _ rfl hE _ A1 k c (I.take k) rfl HL1.out r1' (by unfold maxLen; omega) (by omega) hsz4 ?_; intro v5 w5 O5 hg5; rw [Nat.zero_add, List.nil_append] at O5; obtain ⟨A5, c5, rfl⟩ := own_slice O5)
  have hT5 := hT0.grown hg5 (fun q h hq => own_base hE h)
  have d0 := (hT5.cell (p := ⟨r, 0, none⟩) hrl (by simp; omega)).trans HC0.out
  have r8 := R3.out.below (fun q hq => hT5.block q hq (fun h => by omega))
  have hsz5 := hT5.size
  clear hE r1' hg5 hsz4 x1 hT0 e0
  go_wp2_with (at_builtin; refine wpList_append_reads (V := itemV) rfl (.tmp 14) (.tmp 21) 48 rfl w.heap.size 104 i0 _ 7 72 Try.underlying48 hi0 hz0 hz1 hz2 rfl (by omega) (fun _ => rfl) itemV_one _ _ _ rfl O5 _ A3 _ (c - (k + 1)) (I.drop (k + 1)) rfl HL2.out r8 (by unfold maxLen; omega) (by omega) hsz5 ?_; intro v8 w8 O8 hg8; obtain ⟨A8, c8, rfl⟩ := own_slice O8; have hT8 := hT5.grown hg8 (fun q h hq => own_base O5 h); have B8 := HB.out.turned hT8 (by simp; omega); have g0 := B8.cell 0; have g1 := B8.frozen 0; rw [show (#[.slice A I.length c, .int .i64 room] : Array Value)[0]? = some (.slice A I.length c) from rfl] at g0)
  go_end0
  refine ⟨rfl, _, B8.set_ 0 _, ?_, ?_⟩
  · have O9 := own_turned O8 ((Turned.refl (fun j => j = r) w8).setCell (p := ⟨r, 0, none⟩) (fun _ => rfl) (.slice A8 (k + (I.length - (k + 1))) c8)) (fun g hg e => by have := own_base O8 hg; omega)
    rw [← cellsOf_append, ← List.eraseIdx_eq_take_drop_succ] at O9
    have hln : (I.eraseIdx k).length = k + (I.length - (k + 1)) := by rw [List.length_eraseIdx_of_lt hk]; omega
    rw [hln]
    exact O9
  · exact (hT8.mono (S' := fun j => j = r) (fun i hi h => by omega)).setCell (p := ⟨r, 0, none⟩) (fun _ => rfl) _

end Go.Proofs.Ytnicfiochnkjbaa
