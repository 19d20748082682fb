/- The contracts of row.has over the seat's translation: it tells whether an element is there, and turns nothing. -/
import Derived.Test.YtkldepflfomegaaProg
import Derived.Test.YtkldepflfomegaaBase
import Derived.KernelRfl
import Derived.DeepKeys4
import Derived.Deep.RegionHeld3
namespace Go.Proofs.Ytkldepflfomegaa
open Go.RowKit
open Go.Maps (Keyed)

/-- A set of keys behind a map's value, nil let in. -/
def SetOf (w : World) (P : Program) (k : TypeId) (mv : Value) (xs : List Value) : Prop :=
  (mv = .map none ∧ xs = []) ∨ ∃ b, mv = .map (some b) ∧ MapAt w P k b (xs.map fun x => (x, .agg #[]))

theorem look_set {P : Program} {k t e : TypeId} {w : World} {mv key : Value} {xs : List Value} {r : Bool} (h : SetOf w P k mv xs) (K : Keyed P k) (ht : P.underlying t = some (.map k e))
    (hz : ∀ w, (zeroValue e).run P w = .ok (.agg #[]) w) (hkey : IsK P k key) (hr : r = true ↔ key ∈ xs) :
    (Instr.lookup t mv key true).run P w = .ok (.tuple #[.agg #[], .bool r]) w := by
  rcases h with ⟨rfl, rfl⟩ | ⟨b, rfl, hm⟩
  · obtain ⟨kl, hkl⟩ := hkey
    have : r = false := by cases r with | false => rfl | true => simp at hr
    subst this
    exact Maps.look_nil true K ht (hz w) hkl
  · cases r with
    | true => exact hm.look_yes K ht (List.mem_map.2 ⟨key, hr.1 rfl, rfl⟩) true
    | false =>
      refine hm.look_no K ht (hz w) hkey (fun p hp => ?_) true
      obtain ⟨x, hx, rfl⟩ := List.mem_map.1 hp
      intro e
      subst e
      exact absurd (hr.2 hx) (by simp)

theorem SetOf.turned {S : Nat → Prop} {P : Program} {k : TypeId} {w w' : World} {mv : Value} {xs : List Value} (h : SetOf w P k mv xs) (hb : Turned S w w') (hg : ∀ b, mv = .map (some b) → ¬ S b) : SetOf w' P k mv xs := by
  rcases h with h | ⟨b, rfl, hm⟩
  · exact .inl h
  · exact .inr ⟨b, rfl, hm.turned hb (hg b rfl)⟩
theorem SetOf.alloc {P : Program} {k : TypeId} {w : World} {mv : Value} {xs : List Value} (h : SetOf w P k mv xs) (o : Obj) : SetOf (w.alloc o) P k mv xs :=
  h.turned ((Turned.refl (fun _ => False) w).alloc o) (fun _ _ h => h)
theorem SetOf.drew {P : Program} {k : TypeId} {w : World} {mv : Value} {xs : List Value} (h : SetOf w P k mv xs) : SetOf w.drew P k mv xs := h

theorem laid : laidOutB Try.prog = true := by kernel_rfl
theorem zero_unit (w : World) : (zeroValue 104).run Try.prog w = .ok (.agg #[]) w := by kernel_rfl
theorem key_sig : Keyed Try.prog 83 := Keyed.of_law (deep_law_laid laid (m := 4) (by omega) (of_decide_eq_true (by kernel_rfl)) (by kernel_rfl) (by kernel_rfl))

set_option maxHeartbeats 400000 in
theorem sig_has (p o : Nat) (mv : Value) (xs : List Value) (a : Int) (s : ByteArray) (w : World) (r : Bool) (hc : w.cell? ⟨p, o + 1, none⟩ = some mv)
    (hs : SetOf w Try.prog 83 mv xs) (hr : r = true ↔ (.agg #[.int .u16 a, .string s] : Value) ∈ xs) (hk : IsK Try.prog 83 (.agg #[.int .u16 a, .string s])) :
    Calls Try.prog 34 #[.pointer (some ⟨p, o, none⟩), .agg #[.int .u16 a, .string s]] w fun e w' => e = .returned (.bool r) ∧ Kept w w' := by
  have hlt := World.block_lt_of_cell? w _ hc
  have l1 := look_set ((hs.alloc (.cells #[.int .u16 a, .string s] 83)).drew) key_sig Try.underlying68 zero_unit hk hr
  have l2 := look_set (((hs.alloc (.cells #[.int .u16 a, .string s] 83)).alloc (.cells #[] 104)).drew) key_sig Try.underlying68 zero_unit hk hr
  clear hr hk hs
  go_enter Try.func34, Try.ntmps34
  go_wp2
  go_region
  all_goals go_wp2
  all_goals go_ret
  all_goals exact ⟨rfl, ((((Turned.refl _ w).alloc _).alloc _)).drew⟩

theorem key_made : Keyed Try.prog 88 := Keyed.of_law (deep_law_laid laid (m := 4) (by omega) (of_decide_eq_true (by kernel_rfl)) (by kernel_rfl) (by kernel_rfl))

set_option maxHeartbeats 400000 in
theorem made_has (p o : Nat) (mv : Value) (xs : List Value) (a wy sq : Int) (s : ByteArray) (y : Int) (w : World) (r : Bool) (hc : w.cell? ⟨p, o + 1, none⟩ = some mv)
    (hs : SetOf w Try.prog 88 mv xs) (hr : r = true ↔ (.agg #[.int .u16 a, .int .i64 wy, .int .i64 sq, .string s, .int .i64 y] : Value) ∈ xs) (hk : IsK Try.prog 88 (.agg #[.int .u16 a, .int .i64 wy, .int .i64 sq, .string s, .int .i64 y])) :
    Calls Try.prog 38 #[.pointer (some ⟨p, o, none⟩), .agg #[.int .u16 a, .int .i64 wy, .int .i64 sq, .string s, .int .i64 y]] w fun e w' => e = .returned (.bool r) ∧ Kept w w' := by
  have hlt := World.block_lt_of_cell? w _ hc
  have l1 := look_set ((hs.alloc (.cells #[.int .u16 a, .int .i64 wy, .int .i64 sq, .string s, .int .i64 y] 88)).drew) key_made Try.underlying72 zero_unit hk hr
  have l2 := look_set (((hs.alloc (.cells #[.int .u16 a, .int .i64 wy, .int .i64 sq, .string s, .int .i64 y] 88)).alloc (.cells #[] 104)).drew) key_made Try.underlying72 zero_unit hk hr
  clear hr hk hs
  go_enter Try.func38, Try.ntmps38
  go_wp2
  go_region
  all_goals go_wp2
  all_goals go_ret
  all_goals exact ⟨rfl, ((((Turned.refl _ w).alloc _).alloc _)).drew⟩

theorem key_mac : Keyed Try.prog 36 := Keyed.of_law (deep_law_laid laid (m := 4) (by omega) (of_decide_eq_true (by kernel_rfl)) (by kernel_rfl) (by kernel_rfl))

set_option maxHeartbeats 400000 in
theorem mac_has (p o : Nat) (mv : Value) (xs : List Value) (a wy sq : Int) (s : ByteArray) (w : World) (r : Bool) (hc : w.cell? ⟨p, o + 1, none⟩ = some mv)
    (hs : SetOf w Try.prog 36 mv xs) (hr : r = true ↔ (.agg #[.int .u16 a, .int .i64 wy, .int .i64 sq, .string s] : Value) ∈ xs) (hk : IsK Try.prog 36 (.agg #[.int .u16 a, .int .i64 wy, .int .i64 sq, .string s])) :
    Calls Try.prog 40 #[.pointer (some ⟨p, o, none⟩), .agg #[.int .u16 a, .int .i64 wy, .int .i64 sq, .string s]] w fun e w' => e = .returned (.bool r) ∧ Kept w w' := by
  have hlt := World.block_lt_of_cell? w _ hc
  have l1 := look_set ((hs.alloc (.cells #[.int .u16 a, .int .i64 wy, .int .i64 sq, .string s] 36)).drew) key_mac Try.underlying94 zero_unit hk hr
  have l2 := look_set (((hs.alloc (.cells #[.int .u16 a, .int .i64 wy, .int .i64 sq, .string s] 36)).alloc (.cells #[] 104)).drew) key_mac Try.underlying94 zero_unit hk hr
  clear hr hk hs
  go_enter Try.func40, Try.ntmps40
  go_wp2
  go_region
  all_goals go_wp2
  all_goals go_ret
  all_goals exact ⟨rfl, ((((Turned.refl _ w).alloc _).alloc _)).drew⟩

theorem key_atom : Keyed Try.prog 34 := Go.Maps.int_keyed Try.underlying34

set_option maxHeartbeats 400000 in
theorem atom_has (p o : Nat) (mv : Value) (xs : List Value) (a : Int) (w : World) (r : Bool) (hc : w.cell? ⟨p, o + 1, none⟩ = some mv)
    (hs : SetOf w Try.prog 34 mv xs) (hr : r = true ↔ (.int .u16 a : Value) ∈ xs) (hk : IsK Try.prog 34 (.int .u16 a)) :
    Calls Try.prog 35 #[.pointer (some ⟨p, o, none⟩), .int .u16 a] w fun e w' => e = .returned (.bool r) ∧ Kept w w' := by
  have hlt := World.block_lt_of_cell? w _ hc
  have l1 := look_set hs key_atom Try.underlying75 zero_unit hk hr
  clear hr hk hs
  go_enter Try.func35, Try.ntmps35
  go_wp2
  all_goals go_wp2
  all_goals go_ret
  all_goals exact ⟨rfl, (Turned.refl _ w).alloc _⟩

end Go.Proofs.Ytkldepflfomegaa
