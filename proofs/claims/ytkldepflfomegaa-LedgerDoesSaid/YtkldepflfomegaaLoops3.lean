/- The contract of ledger's Macs. -/
import Derived.Test.YtkldepflfomegaaLoops2
namespace Go.Proofs.Ytkldepflfomegaa
open Go.RowKit
open Go.Maps (Keyed)

def macsStep (c : Int) (acc : List Mac) (x : Made) : List Mac := if x.1.1 = c then (if hasB x.1 acc then acc else acc ++ [x.1]) else acc
def macsOf (M : List Made) (c : Int) : List Mac := M.foldl (macsStep c) []
theorem macs_succ {M : List Made} {c : Int} {j : Nat} (hj : j < M.length) : macsOf (M.take (j + 1)) c = macsStep c (macsOf (M.take j) c) M[j] := by
  unfold macsOf
  rw [List.take_succ_eq_append_getElem hj, List.foldl_append]
  rfl
theorem macsStep_len (c : Int) (acc : List Mac) (x : Made) : (macsStep c acc x).length ≤ acc.length + 1 := by
  unfold macsStep
  split
  · split
    · omega
    · simp
  · omega
theorem macs_fold_len (c : Int) : ∀ (M : List Made) (acc : List Mac), (M.foldl (macsStep c) acc).length ≤ acc.length + M.length
  | [], _ => by simp
  | x :: M, acc => by
    have h1 := macs_fold_len c M (macsStep c acc x)
    have h2 := macsStep_len c acc x
    simp only [List.foldl_cons, List.length_cons]
    omega
theorem macs_le (M : List Made) (c : Int) : (macsOf M c).length ≤ M.length := by unfold macsOf; simpa using macs_fold_len c M []

set_option maxRecDepth 100000 in
set_option maxHeartbeats 1000000 in
theorem macs_any (F : Nat → Prop) (p : Nat) (S : List Sig) (M : List Made) (T : List Int) (ch : Int) (w : World) (hl : M.length ≤ 2000) (hM : ∀ x ∈ M, macOk x.1) (h : BookAt w F p S M T) :
    Calls Try.prog 25 #[.pointer (some ⟨p, 0, none⟩), .int .u16 ch] w fun e w' => ∃ v, e = .returned v ∧ w'.ownsRow 0 36 4 v (macsOf M ch).length (((macsOf M ch).map macV).flatMap (·.cells.toList)) ∧ (∀ g, v.ownBlock = some g → w.heap.size ≤ g) ∧ Kept w w' := by
  obtain ⟨s1, m1, s2, m2, s3, m3, hB, hf⟩ := h
  obtain ⟨A, c, rfl⟩ := own_slice hB.r2.own
  have HO := hB.r2.own
  simp only [List.length_map] at HO ⊢
  have q0 := hB.blk.cell 2
  simp at q0
  have hlt := hB.blk.lt
  clear hB hf
  go_enter Try.func25, Try.ntmps25
  go_wp2_with fail
  go_loopg [14] M.length (fun gk i wr => ∃ (j : Nat) (sv mv : Value), j + gk = M.length ∧ i = .int .i64 j ∧ Blk wr w.heap.size 96 #[sv, mv] ∧ RowIs wr Try.prog 36 4 sv mv ((macsOf (M.take j) ch).map macV) ∧ (∀ g, sv.ownBlock = some g ∨ mv = .map (some g) → w.heap.size ≤ g) ∧ Kept w wr)
  case atStart => exact ⟨0, .slice none 0 0, .map none, Nat.zero_add _, rfl, Blk.new w _ _, ⟨⟨rfl, .inl ⟨rfl, rfl⟩⟩, .inl ⟨rfl, rfl⟩⟩, by simp [Value.ownBlock], (Turned.refl _ _).alloc _⟩
  case round =>
    obtain ⟨j, sv, mv, hj, rfl, hX, hR, hfoot, hK⟩ := hrel
    by_cases hjl : j < M.length
    · obtain ⟨g, rfl, hg, hc⟩ := own_elem madeV (fun _ => rfl) (own_turned HO hK (fun _ _ h => h)) hjl
      obtain ⟨⟨⟨a', wy', sq', s'⟩, y⟩, hMj⟩ : ∃ x, x = M[j] := ⟨_, rfl⟩
      have hmo : macOk (a', wy', sq', s') := by
        have := hM M[j] (List.getElem_mem hjl)
        rw [← hMj] at this
        exact this
      rw [← hMj] at hc
      have c0 : wr.cell? ⟨g, j * 5, none⟩ = some (.int .u16 a') := hc 0 (by omega)
      have c1 : wr.cell? ⟨g, j * 5 + 1, none⟩ = some (.int .i64 wy') := hc 1 (by omega)
      have c2 : wr.cell? ⟨g, j * 5 + 2, none⟩ = some (.int .i64 sq') := hc 2 (by omega)
      have c3 : wr.cell? ⟨g, j * 5 + 3, none⟩ = some (.string s') := hc 3 (by omega)
      have c4 : wr.cell? ⟨g, j * 5 + 4, none⟩ = some (.int .i64 y) := hc 4 (by omega)
      have HE := Lib.hid (macs_succ (c := ch) hjl)
      rw [← hMj] at HE
      clear hc hMj
      have hxl := hX.lt
      have hsz := hK.size
      by_cases hkj : a' = ch
      · have hkb : (a' == ch) = true := by simpa using hkj
        have hml : (macsOf (M.take j) ch).length ≤ j := Nat.le_trans (macs_le _ _) (List.length_take_le _ _)
        have hml' : ((macsOf (M.take j) ch).map macV).length < 3000 := by rw [List.length_map]; omega
        obtain ⟨W, hW⟩ : ∃ W, W = wr.alloc (.cells #[.int .u16 a', .int .i64 wy', .int .i64 sq', .string s', .int .i64 y] 88) := ⟨_, rfl⟩
        have hKW : Kept wr W := by rw [hW]; exact (Turned.refl _ wr).alloc _
        have C := Lib.hid (mac_add w.heap.size 0 96 #[sv, mv] sv mv ((macsOf (M.take j) ch).map macV) a' wy' sq' s' W (hasB (a', wy', sq', s') (macsOf (M.take j) ch)) (by decide) (hX.turned hKW (fun h => h)) rfl rfl (hR.turned hKW (fun _ _ h => h) (fun _ _ h => h)) (dec_mem macV_inj) (isK_mac hmo.1 hmo.2.1 hmo.2.2.1 hmo.2.2.2) hml')
        have HW := Lib.hid hW
        rw [hW] at C
        clear hW
        have HKJ := Lib.hid hkj
        clear hkj
        go_wp2_with (go_at_call 36; refine C.out.mono ?_; rintro e w2 ⟨rfl, hN⟩; have HN := Lib.hid hN; clear hN C)
        go_roundg (gk - 1)
        case measure => omega
        case rel =>
          obtain ⟨sv', mv', b1, b2, b3, b4, b5⟩ := HN.out
          refine ⟨j + 1, sv', mv', by omega, by go_num, by simpa using b1, ?_, ?_, ?_⟩
          · rw [HE.out]
            have e2 : (macsStep ch (macsOf (M.take j) ch) ((a', wy', sq', s'), y)).map macV = (if hasB (a', wy', sq', s') (macsOf (M.take j) ch) = true then (macsOf (M.take j) ch).map macV else (macsOf (M.take j) ch).map macV ++ [.agg #[.int .u16 a', .int .i64 wy', .int .i64 sq', .string s']]) := by
              unfold macsStep
              rw [if_pos HKJ.out]
              split
              · rfl
              · rw [List.map_append]; rfl
            rw [e2]
            exact b2
          · rintro g' (hg' | hg')
            · rcases b4 g' hg' with h | h
              · exact hfoot g' (.inl h)
              · simp at h; omega
            · rcases b5 g' hg' with h | h
              · exact hfoot g' (.inr h)
              · simp at h; omega
          · refine (hK.alloc _).then_ b3 ?_
            rintro i hi (h | h | h)
            · omega
            · have := hfoot i (.inl h); omega
            · have := hfoot i (.inr h); omega
      · have hkb : (a' == ch) = false := by simpa using hkj
        have e2 : macsStep ch (macsOf (M.take j) ch) ((a', wy', sq', s'), y) = macsOf (M.take j) ch := if_neg hkj
        rw [e2] at HE
        clear hkj e2
        go_wp2_with fail
        go_roundg (gk - 1)
        case measure => omega
        case rel => exact ⟨j + 1, sv, mv, by omega, by go_num, hX.alloc _, by rw [HE.out]; exact hR.turned ((Turned.refl (fun _ => False) wr).alloc _) (fun _ _ h => h) (fun _ _ h => h), hfoot, hK.alloc _⟩
    · have hjj : j = M.length := by omega
      subst hjj
      have x0 : wr.cell? ⟨w.heap.size, 0, none⟩ = some sv := hX.cell 0
      go_wp2_with fail
      go_ret
      exact ⟨_, rfl, by simpa using hR.own, fun g hg => hfoot g (.inl hg), hK⟩
end Go.Proofs.Ytkldepflfomegaa
