/- The law's helper body: a body and a number. -/
import Derived.Test.YtkldepflfomegaaBoth
import Derived.Laws.BytesString
namespace Go.Proofs.Ytkldepflfomegaa
open Go.RowKit

/-- Two bytes, as a string. -/
def twoB (a b : Int) : ByteArray := (ByteArray.empty.push (UInt8.ofNat a.toNat)).push (UInt8.ofNat b.toNat)
theorem run_two (w : World) (a b : Int) :
    (convert 64 9 (.slice (some ⟨w.heap.size, 0, none⟩) 2 2)).run Try.prog (w.alloc (.cells #[.int .u8 a, .int .u8 b] 5)) = .ok (.string (twoB a b)) (w.alloc (.cells #[.int .u8 a, .int .u8 b] 5)) := by
  rw [run_convert_bytes_string _ 64 9 5 _ _ _ Try.underlying64 Try.underlying5 Try.underlying9]
  refine run_bytesToString _ ⟨w.heap.size, 0, none⟩ 2 2 [a, b] ?_
  refine run_loadCells_list _ ⟨w.heap.size, 0, none⟩ [.int .u8 a, .int .u8 b] ?_
  intro j v hv
  have hX := Blk.new w 5 #[.int .u8 a, .int .u8 b]
  match j, hv with
  | 0, hv => cases hv; exact hX.cell 0
  | 1, hv => cases hv; exact hX.cell 1
  | j + 2, hv => simp at hv
def bodyR (s : ByteArray) (i : Nat) : ByteArray := s ++ twoB ((i : Int) % 256) ((i : Int) / 256)
theorem bodyR_size (s : ByteArray) (i : Nat) : (bodyR s i).size = s.size + 2 := by
  unfold bodyR
  rw [ByteArray.size_append]
  rfl

set_option maxRecDepth 100000 in
set_option maxHeartbeats 1000000 in
theorem body_any (s : ByteArray) (i : Nat) (w : World) (hi : i < 2100) (hs : s.size ≤ 200) :
    Calls Try.prog 17 #[.string s, .int .i64 (i : Int)] w fun e w' => e = .returned (.string (bodyR s i)) ∧ Kept w w' := by
  have h2 := @run_two
  have hsz : ∀ a b, (twoB a b).size = 2 := fun _ _ => rfl
  go_enter Try.func17, Try.ntmps17
  go_wp2_with fail
  go_ret
  exact ⟨rfl, (Turned.refl _ w).alloc _⟩
end Go.Proofs.Ytkldepflfomegaa
