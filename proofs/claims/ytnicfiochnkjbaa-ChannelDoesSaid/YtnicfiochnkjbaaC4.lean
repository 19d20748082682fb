/- The reference's Atoms. -/
import Derived.Test.YtnicfiochnkjbaaC3
namespace Go.Proofs.Ytnicfiochnkjbaa
open Go.RowKit

theorem info_atom : (Try.prog.info? 56).map (fun i => (i.zero, i.size, i.bytes)) = some (some (.int .u16 0), 1, 2) := by kernel_rfl
theorem atoms_take {s : ByteArray} {j : Nat} (h : j < (atomsR s).length) : (atomsR s).take (j + 1) = (atomsR s).take j ++ [byteAt s (2 * j) * 256 + byteAt s (2 * j + 1)] := by
  rw [List.take_succ_eq_append_getElem h]
  have := atoms_get (s := s) (i := j) (by rw [← atoms_length]; exact h)
  rw [List.getElem?_eq_getElem h] at this
  injection this with this
  rw [this]
set_option maxRecDepth 100000 in
set_option maxHeartbeats 1000000 in
theorem ratoms_any (s : ByteArray) (w : World) (hs : s.size ≤ 1000000) :
    Calls Try.prog 68 #[.string s] w fun e w' => ∃ v, e = .returned v ∧ w'.ownsRow w.heap.size 56 1 v (atomsR s).length ((atomsR s).map atV) ∧ Kept w w' := by
  obtain ⟨i0, hi0, hz0, hz1, hz2⟩ := info_parts info_atom
  have hln := atoms_length s
  have hE := own_empty w w.heap.size 56 1 (Nat.le_refl _)
  have HT := Lib.hid (fun j (h : j < (atomsR s).length) => atoms_take (s := s) (j := j) h)
  have HA : Hid ((atomsR s).take (atomsR s).length = atomsR s) := Lib.hid (List.take_length)
  have HL := Lib.hid (fun j (h : j ≤ (atomsR s).length) => (List.length_take_of_le h))
  generalize hN : (atomsR s).length = N at *
  have h0 : 2 * N ≤ s.size := by omega
  have h1 : s.size ≤ 2 * N + 1 := by omega
  clear hln hN
  go_enter Try.func68, Try.ntmps68
  go_wp2_with fail
  go_loopg [3, 4] N (fun gk v i wr => ∃ j : Nat, j + gk = N ∧ i = .int .i64 (2 * (j : Int)) ∧ wr.ownsRow w.heap.size 56 1 v j (((atomsR s).take j).map atV) ∧ Kept w wr)
  case atStart => exact ⟨0, Nat.zero_add _, rfl, hE, (Turned.refl _ _).alloc _⟩
  case round =>
    obtain ⟨j, hj, rfl, hown, hK⟩ := hrel
    clear hE
    by_cases hjl : j < N
    · have HE := Lib.hid (HT.out j hjl)
      have x1 : ∀ W, (Instr.index 51 (.string s) (.int .i64 (2 * (j : Int)))).run Try.prog W = .ok (.int .u8 (byteAt s (2 * j))) W := fun W => by
        rw [run_index_string W _ _ _ _ Try.underlying51, dif_pos ⟨by omega, by omega⟩, ← byteAt_eq (by omega)]
        congr 2
      have x2 : ∀ W, (Instr.index 51 (.string s) (.int .i64 ((2 * (j : Int)) + 1))).run Try.prog W = .ok (.int .u8 (byteAt s (2 * j + 1))) W := fun W => by
        rw [run_index_string W _ _ _ _ Try.underlying51, dif_pos ⟨by omega, by omega⟩, ← byteAt_eq (by omega)]
        congr 2
      obtain ⟨a0, a1⟩ := byteAt_bd s (2 * j)
      obtain ⟨b0, b1⟩ := byteAt_bd s (2 * j + 1)
      have hsz := hK.size
      generalize byteAt s (2 * j) = a at x1 a0 a1 HE
      generalize byteAt s (2 * j + 1) = b at x2 b0 b1 HE
      obtain ⟨A', c', rfl⟩ := own_slice hown
      have d1 : ((2 * (j : Int)) + 1) < (s.size : Int) := by omega
      have k1 : IntKind.u16.wrap (a * 256) = a * 256 := wraps_u16 _ (by omega) (by omega)
      have k2 : IntKind.u16.wrap (a * 256 + b) = a * 256 + b := wraps_u16 _ (by omega) (by omega)
      have k4 : IntKind.u16.wrap a = a := wraps_u16 _ (by omega) (by omega)
      have k5 : IntKind.u16.wrap b = b := wraps_u16 _ (by omega) (by omega)
      have k3 : IntKind.i64.wrap ((2 * (j : Int)) + 1) = (2 * (j : Int)) + 1 := by rw [IntKind.wrap_i64]; omega
      go_wp2_with fail
      go_region_law (refine step_append_lies _ (by rfl) _ _ _ (by rfl) w.heap.size 56 i0 _ 1 2 Try.underlying68 hi0 hz0 hz1 hz2 rfl (by omega) (.slice A' j c') _ _ (by rfl) ((hown.alloc _).drew) ⟨wr.heap.size, 0, none⟩ 1 1 [.int .u16 (a * 256 + b)] (by rfl) (by rfl) (World.news_of_block (cs := #[.int .u16 (a * 256 + b)]) (t := 56) (fr := (0, 0)) (heap_alloc_new wr _)) (by simp [Value.oneCell']) (by omega) (by unfold maxLen; omega) (by omega) (by simp; omega) (wr.heap.size + 1) (by simp) ?_; intro gg cap w3 O3 hg3 hat hlt3)
      all_goals
        go_wp2_with fail
        go_roundg (gk - 1)
        case measure => clear k1 k2 k3 k4 k5; omega
        case rel =>
          clear k1 k2 k3 k4 k5
          refine ⟨j + 1, by omega, by go_num, ?_, ?_⟩
          · rw [HE.out, List.map_append]; exact O3
          · exact ((hK.alloc _).drew.grown hg3 (fun k h hk => absurd (own_base hown h) (by omega)))
    · have hjj : j = N := by omega
      subst hjj
      rw [HA.out] at hown
      have d1 : ¬ ((2 * (j : Int)) + 1) < (s.size : Int) := by omega
      go_wp2_with fail
      go_ret
      exact ⟨_, rfl, hown, hK⟩

theorem take_eq_succ {α : Type} {xs ys : List α} {j : Nat} (hx : j < xs.length) (hy : j < ys.length) (h : xs.take j = ys.take j) (e : xs[j] = ys[j]) : xs.take (j + 1) = ys.take (j + 1) := by
  rw [List.take_succ_eq_append_getElem hx, List.take_succ_eq_append_getElem hy, h, e]
end Go.Proofs.Ytnicfiochnkjbaa
