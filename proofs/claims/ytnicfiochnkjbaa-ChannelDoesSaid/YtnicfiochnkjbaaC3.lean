/- The reference's Of. -/
import Derived.Test.YtnicfiochnkjbaaCPlain
import Derived.Test.YtnicfiochnkjbaaRow
import Derived.Laws.BytesString
import Derived.Deep.RegionLaw
namespace Go.Proofs.Ytnicfiochnkjbaa
open Go.RowKit

/-- The bytes of atoms, as numbers. -/
def unpI : List Int → List Int
  | [] => []
  | x :: t => x / 256 :: x % 256 :: unpI t
theorem unpI_append : ∀ (a b : List Int), unpI (a ++ b) = unpI a ++ unpI b
  | [], b => rfl
  | x :: t, b => by simp only [List.cons_append, unpI, unpI_append t b]
theorem unpI_length : ∀ l : List Int, (unpI l).length = 2 * l.length
  | [] => rfl
  | _ :: t => by simp only [unpI, List.length_cons, unpI_length t]; omega
theorem unpI_take {l : List Int} {j : Nat} (h : j < l.length) : unpI (l.take (j + 1)) = unpI (l.take j) ++ [l[j] / 256, l[j] % 256] := by
  rw [List.take_succ_eq_append_getElem h, unpI_append]
  rfl
theorem unp_unpI : ∀ l : List Int, unp l = (unpI l).map (fun n => UInt8.ofNat n.toNat)
  | [] => rfl
  | x :: t => by simp only [unp, unpI, List.map_cons, unp_unpI t]
theorem push_fold (ns : List Int) : ∀ (r : ByteArray), ns.foldl (fun r n => r.push (UInt8.ofNat n.toNat)) r = ⟨r.data ++ (ns.map (fun n => UInt8.ofNat n.toNat)).toArray⟩ := by
  induction ns with
  | nil => intro r; simp
  | cons n ns ih =>
    intro r
    rw [List.foldl_cons, ih]
    simp [ByteArray.push]
theorem of_fold (l : List Int) : (unpI l).foldl (fun r n => r.push (UInt8.ofNat n.toNat)) ByteArray.empty = ofR l := by
  rw [push_fold]
  unfold ofR
  rw [unp_unpI]
  simp [ByteArray.empty, ByteArray.emptyWithCapacity]
  rfl
def u8V (n : Int) : Value := .int .u8 n
def atV (n : Int) : Value := .int .u16 n
theorem run_of_bytes {w : World} {base : Nat} {A : Option Addr} {c n : Nat} {l : List Int} (h : w.ownsRow base 5 1 (.slice A n c) n ((unpI l).map u8V)) :
    (convert 119 51 (.slice A n c)).run Try.prog w = .ok (.string (ofR l)) w := by
  rw [run_convert_bytes_string _ 119 51 5 _ _ _ Try.underlying119 Try.underlying5 Try.underlying51]
  have hn : (unpI l).length = n := by simpa using h.1
  rcases h.2 with ⟨hv, h0⟩ | ⟨g, cap, cur, hv, _⟩
  · injection hv with hA _ hc
    subst hA hc
    subst h0
    have hl : l = [] := by
      rw [unpI_length] at hn
      exact List.length_eq_zero_iff.1 (by omega)
    subst hl
    rfl
  · injection hv with hA _ hc
    subst hA
    rw [← of_fold]
    refine run_bytesToString _ ⟨g, 0, none⟩ n c (unpI l) ?_
    have hll := run_loadCells_list (P := Try.prog) w ⟨g, 0, none⟩ ((unpI l).map (Value.int .u8)) (by
      intro j v hv
      have hj : j < n := by
        have := (List.getElem?_eq_some_iff.1 hv).1
        simpa [hn] using this
      obtain ⟨g', hg', _, hc⟩ := own_at h hj
      cases hg'
      have := hc 0 (by omega)
      simp only [Nat.mul_one, Nat.add_zero] at this
      simp only [Addr.add_lit, Nat.zero_add]
      rw [this]
      exact hv)
    rw [List.length_map, hn] at hll
    exact hll
theorem info_u8 : (Try.prog.info? 5).map (fun i => (i.zero, i.size, i.bytes)) = some (some (.int .u8 0), 1, 1) := by kernel_rfl

theorem wrap_u8 (n : Int) (h₀ : 0 ≤ n) (h₁ : n < 2 ^ 8) : IntKind.u8.wrap n = n := by
  rw [show IntKind.u8.wrap n = n % 256 by simp [IntKind.wrap, IntKind.bits, IntKind.signed]]
  omega
theorem own_empty (w : World) (base e size : Nat) (hb : base ≤ w.heap.size) : (w.alloc (.cells #[] e)).ownsRow base e size (.slice (some ⟨w.heap.size, 0, none⟩) 0 0) 0 [] :=
  ⟨by simp, .inr ⟨w.heap.size, 0, #[], rfl, hb, heap_alloc_new w _, Nat.le_refl _, by simp [maxLen], by simp, by simp⟩⟩
set_option maxRecDepth 100000 in
set_option maxHeartbeats 1000000 in
theorem rof_any (A : Option Addr) (c : Nat) (l : List Int) (w : World) (hl : l.length ≤ 1000000) (hr : ReadsT atV w w.heap.size 1 A l) (hu : ∀ x ∈ l, u16 x) :
    Calls Try.prog 43 #[.slice A l.length c] w fun e w' => e = .returned (.string (ofR l)) ∧ Kept w w' := by
  obtain ⟨i0, hi0, hz0, hz1, hz2⟩ := info_parts info_u8
  have HR := Lib.hid hr
  have HU := Lib.hid hu
  have hE := own_empty w w.heap.size 5 1 (Nat.le_refl _)
  clear hr hu
  go_enter Try.func43, Try.ntmps43
  go_wp2_with fail
  go_loopg [3, 4] l.length (fun gk v i wr => ∃ j : Nat, j + gk = l.length ∧ i = .int .i64 j ∧ wr.ownsRow w.heap.size 5 1 v (2 * j) ((unpI (l.take j)).map u8V) ∧ Kept w wr)
  case atStart => exact ⟨0, Nat.zero_add _, rfl, hE, (Turned.refl _ _).alloc _⟩
  case round =>
    obtain ⟨j, hj, rfl, hown, hK⟩ := hrel
    clear hE
    by_cases hjl : j < l.length
    · obtain ⟨b, o, rfl, hb, hc⟩ := ReadsT.cell_one (fun _ => rfl) HR.out hjl
      have hx := HU.out _ (List.getElem_mem hjl)
      obtain ⟨x, hxe⟩ : ∃ x, x = l[j] := ⟨_, rfl⟩
      have HE := Lib.hid (unpI_take hjl)
      rw [← hxe] at hc hx HE
      obtain ⟨x0, x1⟩ := hx
      have c0 : wr.cell? ⟨b, o + j, none⟩ = some (.int .u16 x) := (hK.cell (p := ⟨b, o + j, none⟩) hb (fun h => h)).trans hc
      have i1 : (j : Int) < (l.length : Int) := by omega
      have i2 : (0 : Int) ≤ (j : Int) := by omega
      have hsz := hK.size
      have hb2 : b < wr.heap.size := by omega
      obtain ⟨A', c', rfl⟩ := own_slice hown
      have k1 : IntKind.u16.wrap (x.tdiv 256) = x / 256 := by rw [Int.tdiv_eq_ediv_of_nonneg x0]; exact wraps_u16 _ (by omega) (by omega)
      have k4 : IntKind.u8.wrap (x / 256) = x / 256 := by rw [wrap_u8 _ (by omega) (by omega)]
      have k5 : IntKind.u8.wrap (x.tmod 256) = x % 256 := by rw [Int.tmod_eq_emod_of_nonneg x0, wrap_u8 _ (by omega) (by omega)]
      have k2 : x / 256 % 256 = x / 256 := by omega
      clear hc hxe
      go_wp2_with fail
      go_region_law (refine step_append_lies _ (by rfl) _ _ _ (by rfl) w.heap.size 5 i0 _ 1 1 Try.underlying119 hi0 hz0 hz1 hz2 rfl (by omega) (.slice A' (2 * j) c') _ _ (by rfl) ((hown.alloc _).drew) ⟨wr.heap.size, 0, none⟩ 2 2 [.int .u8 (x / 256), .int .u8 (x % 256)] (by rfl) (by rfl) (World.news_of_block (cs := #[.int .u8 (x / 256), .int .u8 (x % 256)]) (t := 5) (fr := (0, 0)) (heap_alloc_new wr _)) (by simp [Value.oneCell']) (by omega) (by unfold maxLen; omega) (by omega) (by simp; omega) (wr.heap.size + 1) (by simp) ?_; intro gg cap w3 O3 hg3 hat hlt3)
      all_goals
        go_wp2_with fail
        go_roundg (gk - 1)
        case measure => clear k1 k2 k4 k5; omega
        case rel =>
          clear k1 k2 k4 k5
          refine ⟨j + 1, by omega, by go_num, ?_, ?_⟩
          · rw [HE.out, List.map_append]; exact O3
          · exact ((hK.alloc _).drew.grown hg3 (fun k h hk => absurd (own_base hown h) (by omega)))
    · have hjj : j = l.length := by omega
      subst hjj
      rw [List.take_length] at hown
      obtain ⟨A', c', rfl⟩ := own_slice hown
      have hrun := run_of_bytes hown
      go_wp2_with fail
      go_ret
      exact ⟨rfl, hK⟩
end Go.Proofs.Ytnicfiochnkjbaa
