/- The reference's book in memory, and the contracts of its Signed, Stolen, Sign, Steal. -/
import Derived.Test.YtkldepflfomegaaBookP
import Derived.Test.YtkldepflfomegaaMakers
namespace Go.Proofs.Ytkldepflfomegaa
open Go.RowKit
open Go.Maps (Keyed)

structure RefIs (w : World) (p : Nat) (s1 s2 s3 : Value) (S : List Sig) (M : List Made) (T : List Int) : Prop where
  blk : Blk w p 32 #[s1, s2, s3]
  r1 : w.ownsRow 0 85 2 s1 S.length ((S.map sigV).flatMap (·.cells.toList))
  r2 : w.ownsRow 0 90 5 s2 M.length ((M.map madeV).flatMap (·.cells.toList))
  r3 : w.ownsRow 0 34 1 s3 T.length ((T.map atomV).flatMap (·.cells.toList))

def RefFoot (p : Nat) (s1 s2 s3 : Value) (k : Nat) : Prop := k = p ∨ s1.ownBlock = some k ∨ s2.ownBlock = some k ∨ s3.ownBlock = some k

/-- The reference's book, which lies in what has come since w, and takes none of the blocks Pr. -/
def RefP (w wr : World) (p : Nat) (S : List Sig) (M : List Made) (T : List Int) (Pr : Nat → Prop) : Prop :=
  ∃ s1 s2 s3, RefIs wr p s1 s2 s3 S M T ∧ ∀ k, RefFoot p s1 s2 s3 k → w.heap.size ≤ k ∧ k < wr.heap.size ∧ ¬ Pr k

section
variable {w wr wr' : World} {p : Nat} {s1 s2 s3 : Value} {S : List Sig} {M : List Made} {T : List Int} {Pr Pr' : Nat → Prop}
theorem RefIs.turned {U : Nat → Prop} (h : RefIs wr p s1 s2 s3 S M T) (hT : Turned U wr wr') (hU : ∀ k, RefFoot p s1 s2 s3 k → ¬ U k) : RefIs wr' p s1 s2 s3 S M T :=
  ⟨h.blk.turned hT (hU _ (.inl rfl)), own_turned h.r1 hT (fun g hg => hU g (.inr (.inl hg))), own_turned h.r2 hT (fun g hg => hU g (.inr (.inr (.inl hg)))), own_turned h.r3 hT (fun g hg => hU g (.inr (.inr (.inr hg))))⟩
theorem RefP.kept (h : RefP w wr p S M T Pr) (hK : Kept wr wr') : RefP w wr' p S M T Pr := by
  obtain ⟨s1, s2, s3, h1, h2⟩ := h
  exact ⟨s1, s2, s3, h1.turned hK (fun _ _ h => h), fun k hk => ⟨(h2 k hk).1, Nat.lt_of_lt_of_le (h2 k hk).2.1 hK.size, (h2 k hk).2.2⟩⟩
theorem RefP.protect (h : RefP w wr p S M T Pr) (hK : Kept wr wr') (hP : ∀ k, Pr' k → Pr k ∨ wr.heap.size ≤ k) : RefP w wr' p S M T Pr' := by
  obtain ⟨s1, s2, s3, h1, h2⟩ := h
  exact ⟨s1, s2, s3, h1.turned hK (fun _ _ h => h), fun k hk => ⟨(h2 k hk).1, Nat.lt_of_lt_of_le (h2 k hk).2.1 hK.size, fun hp => (hP k hp).elim (h2 k hk).2.2 (fun h => by have := (h2 k hk).2.1; omega)⟩⟩
theorem RefP.beside {U : Nat → Prop} (h : RefP w wr p S M T Pr) (hT : Turned U wr wr') (hU : ∀ k, U k → Pr k) : RefP w wr' p S M T Pr := by
  obtain ⟨s1, s2, s3, h1, h2⟩ := h
  exact ⟨s1, s2, s3, h1.turned hT (fun k hk hu => (h2 k hk).2.2 (hU k hu)), fun k hk => ⟨(h2 k hk).1, Nat.lt_of_lt_of_le (h2 k hk).2.1 hT.size, (h2 k hk).2.2⟩⟩
end

theorem hasB_sig_succ {S : List Sig} {k : Int} {b : ByteArray} {j : Nat} (hj : j < S.length) : hasB (k, b) (S.take (j + 1)) = (hasB (k, b) (S.take j) || decide (S[j].1 = k ∧ S[j].2 = b)) := by
  unfold hasB
  rw [List.take_succ_eq_append_getElem hj, List.any_append]
  congr 1
  simp [Prod.ext_iff]
theorem hasB_of_get {α : Type} [DecidableEq α] {l : List α} {x : α} {j : Nat} (hj : j < l.length) (h : l[j] = x) : hasB x l = true := hasB_iff.2 (h ▸ List.getElem_mem hj)

set_option maxRecDepth 100000 in
set_option maxHeartbeats 1000000 in
theorem rsigned_any (p : Nat) (s1 s2 s3 : Value) (S : List Sig) (M : List Made) (T : List Int) (k : Int) (b : ByteArray) (w : World) (hl : S.length ≤ 2000) (h : RefIs w p s1 s2 s3 S M T) :
    Calls Try.prog 20 #[.pointer (some ⟨p, 0, none⟩), .int .u16 k, .string b] w fun e w' => e = .returned (.bool (hasB (k, b) S)) ∧ w = w' := by
  obtain ⟨A, c, rfl⟩ := own_slice h.r1
  have HO := h.r1
  have q0 := h.blk.cell 0
  simp at q0
  have hlt := h.blk.lt
  clear h
  go_enter Try.func20, Try.ntmps20
  go_wp2_with fail
  go_loopg [7] S.length (fun gk i wr => ∃ j : Nat, j + gk = S.length ∧ i = .int .i64 j ∧ hasB (k, b) (S.take j) = false ∧ w = wr)
  case atStart => exact ⟨0, Nat.zero_add _, rfl, rfl, rfl⟩
  case round =>
    obtain ⟨j, hj, rfl, hno, rfl⟩ := hrel
    by_cases hjl : j < S.length
    · obtain ⟨g, rfl, hg, hc⟩ := own_elem sigV (fun _ => rfl) HO hjl
      have HS := hasB_sig_succ (k := k) (b := b) hjl
      rw [hno, Bool.false_or] at HS
      obtain ⟨⟨a, s⟩, hx⟩ : ∃ x, x = S[j] := ⟨_, rfl⟩
      rw [← hx] at hc HS
      have c0 : w.cell? ⟨g, j * 2, none⟩ = some (.int .u16 a) := hc 0 (by omega)
      have c1 : w.cell? ⟨g, j * 2 + 1, none⟩ = some (.string s) := hc 1 (by omega)
      have i0 : (0 : Int) ≤ (j : Int) := by omega
      have i1 : (j : Int) < (S.length : Int) := by omega
      have HG : Hid (∀ e : (a, s) = (k, b), hasB (k, b) S = true) := fun e => hasB_of_get hjl (by rw [← hx]; exact e)
      have HSS := Lib.hid HS
      clear hc HS hx hno HO
      by_cases ha : a = k
      · have hab : (a == k) = true := by simpa using ha
        by_cases hs : s = b
        · have hsb : (s.toList == b.toList) = true := by simp [hs]
          have HR : Hid (hasB (k, b) S = true) := HG.out (by rw [ha, hs])
          clear ha hs HG HSS
          go_wp2_with fail
          go_ret
          exact ⟨by rw [HR.out]; rfl, rfl⟩
        · have hsb : (s.toList == b.toList) = false := by
            rw [bytes_beq]; simpa using hs
          have HR : Hid (hasB (k, b) (S.take (j + 1)) = false) := by
            show _ = false
            rw [HSS.out]; simp [hs]
          clear ha hs HG HSS
          go_wp2_with fail
          go_roundg (gk - 1)
          case measure => omega
          case rel => exact ⟨j + 1, by omega, by go_num, HR.out, rfl⟩
      · have hab : (a == k) = false := by simpa using ha
        have HR : Hid (hasB (k, b) (S.take (j + 1)) = false) := by
          show _ = false
          rw [HSS.out]; simp [ha]
        clear ha HG HSS
        go_wp2_with fail
        go_roundg (gk - 1)
        case measure => omega
        case rel => exact ⟨j + 1, by omega, by go_num, HR.out, rfl⟩
    · have hjj : j = S.length := by omega
      subst hjj
      have HR := Lib.hid (show hasB (k, b) S = false by simpa using hno)
      clear hno HO
      go_wp2_with fail
      go_ret
      exact ⟨by rw [HR.out]; rfl, rfl⟩

theorem hasB_atom_succ {T : List Int} {a : Int} {j : Nat} (hj : j < T.length) : hasB a (T.take (j + 1)) = (hasB a (T.take j) || decide (T[j] = a)) := by
  unfold hasB
  rw [List.take_succ_eq_append_getElem hj, List.any_append]
  simp

set_option maxRecDepth 100000 in
set_option maxHeartbeats 1000000 in
theorem rstolen_any (p : Nat) (s1 s2 s3 : Value) (S : List Sig) (M : List Made) (T : List Int) (k : Int) (w : World) (hl : T.length ≤ 2000) (h : RefIs w p s1 s2 s3 S M T) :
    Calls Try.prog 22 #[.pointer (some ⟨p, 0, none⟩), .int .u16 k] w fun e w' => e = .returned (.bool (hasB k T)) ∧ w = w' := by
  obtain ⟨A, c, rfl⟩ := own_slice h.r3
  have HO := h.r3
  have q0 := h.blk.cell 2
  simp at q0
  have hlt := h.blk.lt
  clear h
  go_enter Try.func22, Try.ntmps22
  go_wp2_with fail
  go_loopg [5] T.length (fun gk i wr => ∃ j : Nat, j + gk = T.length ∧ i = .int .i64 j ∧ hasB k (T.take j) = false ∧ w = wr)
  case atStart => exact ⟨0, Nat.zero_add _, rfl, rfl, rfl⟩
  case round =>
    obtain ⟨j, hj, rfl, hno, rfl⟩ := hrel
    by_cases hjl : j < T.length
    · obtain ⟨g, rfl, hg, hc⟩ := own_elem (size := 1) atomV (fun _ => rfl) HO hjl
      have HS := hasB_atom_succ (a := k) hjl
      rw [hno, Bool.false_or] at HS
      obtain ⟨a, hx⟩ : ∃ x, x = T[j] := ⟨_, rfl⟩
      rw [← hx] at hc HS
      have c0 : w.cell? ⟨g, j, none⟩ = some (.int .u16 a) := by simpa [atomV, Value.cells] using hc 0 (Nat.zero_lt_one)
      have i0 : (0 : Int) ≤ (j : Int) := by omega
      have i1 : (j : Int) < (T.length : Int) := by omega
      have HG : Hid (∀ e : a = k, hasB k T = true) := fun e => hasB_of_get hjl (by rw [← hx]; exact e)
      have HSS := Lib.hid HS
      clear hc HS hx hno HO
      by_cases ha : a = k
      · have hab : (a == k) = true := by simpa using ha
        have HR : Hid (hasB k T = true) := HG.out ha
        clear ha HG HSS
        go_wp2_with fail
        go_ret
        exact ⟨by rw [HR.out]; rfl, rfl⟩
      · have hab : (a == k) = false := by simpa using ha
        have HR : Hid (hasB k (T.take (j + 1)) = false) := by
          show _ = false
          rw [HSS.out]; simp [ha]
        clear ha HG HSS
        go_wp2_with fail
        go_roundg (gk - 1)
        case measure => omega
        case rel => exact ⟨j + 1, by omega, by go_num, HR.out, rfl⟩
    · have hjj : j = T.length := by omega
      subst hjj
      have HR := Lib.hid (show hasB k T = false by simpa using hno)
      clear hno HO
      go_wp2_with fail
      go_ret
      exact ⟨by rw [HR.out]; rfl, rfl⟩
end Go.Proofs.Ytkldepflfomegaa
