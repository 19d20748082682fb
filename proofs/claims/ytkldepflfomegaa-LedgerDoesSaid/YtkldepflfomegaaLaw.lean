/- The law's own helpers: large, texts. -/
import Derived.Test.YtkldepflfomegaaLoops3
namespace Go.Proofs.Ytkldepflfomegaa
open Go.RowKit
open Go.Maps (Keyed)

/-- A slice that reads as a list of plain things, nil let in. -/
def ReadsT {α : Type} (V : α → Value) (w : World) (B size : Nat) (A : Option Addr) (xs : List α) : Prop :=
  ∀ j (hj : j < xs.length), ∃ b o, A = some ⟨b, o, none⟩ ∧ b < B ∧ ∀ i, i < size → w.cell? ⟨b, o + j * size + i, none⟩ = (V xs[j]).cells[i]?

section
variable {α : Type} {V : α → Value} {w w' : World} {B size : Nat} {A : Option Addr} {xs : List α}
theorem ReadsT.below (h : ReadsT V w B size A xs) (hb : ∀ k, k < B → w'.heap[k]? = w.heap[k]?) : ReadsT V w' B size A xs := fun j hj => by
  obtain ⟨b, o, h1, h2, h3⟩ := h j hj
  exact ⟨b, o, h1, h2, fun i hi => (World.cell?_of_block (w := w) (hb b h2)).trans (h3 i hi)⟩
theorem ReadsT.of_own {base e c : Nat} (hV : ∀ x, (V x).cells.size = size) (h : w.ownsRow base e size (.slice A xs.length c) xs.length ((xs.map V).flatMap (·.cells.toList))) : ReadsT V w w.heap.size size A xs := fun j hj => by
  obtain ⟨g, h1, h2, h3⟩ := own_elem V hV h hj
  exact ⟨g, 0, h1, h2, fun i hi => by rw [Nat.zero_add]; exact h3 i hi⟩
end

/-! ### acts -/
structure Act_ where
  kind : Int
  key : Int
  mac : Mac
  who : Int
def actV (x : Act_) : Value := .agg #[.int .i64 x.kind, .int .u16 x.key, .int .u16 x.mac.1, .int .i64 x.mac.2.1, .int .i64 x.mac.2.2.1, .string x.mac.2.2.2, .int .i64 x.who]
def actOk (x : Act_) : Prop := i64 x.kind ∧ u16 x.key ∧ macOk x.mac ∧ i64 x.who

/-- How many of the acts sign very often. -/
def threes (l : List Act_) : Nat := (l.filter fun x => decide (x.kind = 3)).length
def longs (l : List Act_) : Bool := l.any fun x => decide (200 < x.mac.2.2.2.size)
def largeR (l : List Act_) : Bool := longs (l.take 200) || decide (2 < threes (l.take 200))

theorem threes_succ {l : List Act_} {j : Nat} (hj : j < l.length) : threes (l.take (j + 1)) = threes (l.take j) + if l[j].kind = 3 then 1 else 0 := by
  unfold threes
  rw [List.take_succ_eq_append_getElem hj, List.filter_append, List.length_append]
  congr 1
  by_cases h : l[j].kind = 3 <;> simp [h]
theorem threes_le (l : List Act_) : threes l ≤ l.length := List.length_filter_le _ _
theorem longs_succ {l : List Act_} {j : Nat} (hj : j < l.length) : longs (l.take (j + 1)) = (longs (l.take j) || decide (200 < l[j].mac.2.2.2.size)) := by
  unfold longs
  rw [List.take_succ_eq_append_getElem hj, List.any_append]
  simp
theorem longs_mono {l : List Act_} {j n : Nat} (hj : j < l.length) (hn : j < n) (h : 200 < l[j].mac.2.2.2.size) : longs (l.take n) = true := by
  unfold longs
  rw [List.any_eq_true]
  exact ⟨l[j], List.mem_take_iff_getElem.2 ⟨j, by omega, rfl⟩, by simpa using h⟩

set_option maxRecDepth 100000 in
set_option maxHeartbeats 1000000 in
theorem large_any (A : Option Addr) (c B : Nat) (l : List Act_) (w : World) (hl : l.length ≤ 9223372036854775807) (h : ReadsT actV w B 7 A l) :
    Calls Try.prog 9 #[.slice A l.length c] w fun e w' => e = .returned (.bool (largeR l)) ∧ w = w' := by
  go_enter Try.func9, Try.ntmps9
  go_wp2_with fail
  go_loopg [3, 4] l.length (fun gk n i wr => ∃ j : Nat, j + gk = l.length ∧ j ≤ 200 ∧ i = .int .i64 j ∧ n = .int .i64 (threes (l.take j) : Int) ∧ longs (l.take j) = false ∧ w = wr)
  case atStart => exact ⟨0, Nat.zero_add _, by omega, rfl, rfl, rfl, rfl⟩
  case round =>
    obtain ⟨j, hj, hj2, rfl, rfl, hlo, rfl⟩ := hrel
    by_cases hjl : j < l.length ∧ j < 200
    · obtain ⟨hjl, hj3⟩ := hjl
      obtain ⟨b, o, rfl, hb, hc⟩ := h j hjl
      obtain ⟨⟨kind, key, ⟨a, wy, sq, s⟩, y⟩, hx⟩ : ∃ x, x = l[j] := ⟨_, rfl⟩
      rw [← hx] at hc
      have c0 : w.cell? ⟨b, o + j * 7, none⟩ = some (.int .i64 kind) := hc 0 (by omega)
      have c5 : w.cell? ⟨b, o + j * 7 + 5, none⟩ = some (.string s) := hc 5 (by omega)
      clear hc
      have h3 := threes_succ hjl
      have hL := longs_succ hjl
      have hT := threes_le (l.take j)
      have hT2 := List.length_take_le j l
      have hi3 : (j : Int) < 200 := by omega
      rw [← hx] at h3 hL
      by_cases hs : 200 < s.size
      · have hd : decide (200 < (s.size : Int)) = true := by simp; omega
        have HL : Hid (largeR l = true) := by
          have e : longs (l.take 200) = true := longs_mono hjl hj3 (by rw [← hx]; exact hs)
          show largeR l = true
          unfold largeR
          rw [e]; rfl
        clear h3 hL hx hs hlo h
        go_wp2_with fail
        go_ret
        exact ⟨by rw [HL.out]; rfl, rfl⟩
      · have hd : decide (200 < (s.size : Int)) = false := by simp; omega
        rw [hlo, decide_eq_false hs] at hL
        have HL := Lib.hid hL
        have H3 := Lib.hid h3
        clear h3 hL hx hs hlo h
        by_cases hk : kind = 3
        · have hkb : (kind == 3) = true := by simpa using hk
          have HK := Lib.hid hk
          clear hk
          go_wp2_with fail
          go_roundg (gk - 1)
          case measure => omega
          case rel => exact ⟨j + 1, by omega, by omega, by go_num, by rw [H3.out, if_pos HK.out]; go_num, by rw [HL.out]; rfl, rfl⟩
        · have hkb : (kind == 3) = false := by simpa using hk
          have HK := Lib.hid hk
          clear hk
          go_wp2_with fail
          go_roundg (gk - 1)
          case measure => omega
          case rel => exact ⟨j + 1, by omega, by omega, by go_num, by rw [H3.out, if_neg HK.out]; go_num, by rw [HL.out]; rfl, rfl⟩
    · have e : l.take j = l.take 200 := by
        by_cases h1 : j < l.length
        · have : j = 200 := by omega
          rw [this]
        · rw [List.take_of_length_le (by omega), List.take_of_length_le (by omega)]
      have HE : Hid (largeR l = decide ((2 : Int) < (threes (l.take j) : Int))) := by
        show largeR l = _
        unfold largeR
        rw [← e, hlo, Bool.false_or]
        rw [Bool.eq_iff_iff]; simp; omega
      clear e h hlo
      by_cases h1 : j < l.length
      · have h2 : decide ((j : Int) < 200) = false := by simp; omega
        clear hjl
        go_wp2_with fail
        go_ret
        exact ⟨by rw [HE.out]; rfl, rfl⟩
      · clear hjl
        go_wp2_with fail
        go_ret
        exact ⟨by rw [HE.out]; rfl, rfl⟩
end Go.Proofs.Ytkldepflfomegaa
