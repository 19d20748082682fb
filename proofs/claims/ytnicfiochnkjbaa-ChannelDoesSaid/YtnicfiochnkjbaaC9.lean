/- The cache's questions: asked. -/
import Derived.Test.YtnicfiochnkjbaaC8
import Derived.Test.YtnicfiochnkjbaaMapD
import Derived.Laws.CopyOwn
import Derived.Deep.RegionLaw
import Derived.Laws.Rows
import Derived.DeepKeys4
namespace Go.Proofs.Ytnicfiochnkjbaa
open Go.RowKit
open Go.Maps (Keyed)

theorem laid0 : laidOutB Try.prog = true := by kernel_rfl
/-- A question: the object, the operation, who. -/
structure Qu where
  obj : Int
  op : Int
  who : List ByteArray
/-- Who, as the sixteen places hold it. -/
def padW (l : List ByteArray) : List ByteArray := l.take 16 ++ List.replicate (16 - l.length) ⟨#[]⟩
theorem padW_length (l : List ByteArray) : (padW l).length = 16 := by unfold padW; simp; omega
def quL (q : Qu) : List Value := .int .i64 q.obj :: .int .i64 q.op :: (padW q.who).map Value.string
def quC (q : Qu) : Array Value := (quL q).toArray
def quV (q : Qu) : Value := .agg (quC q)
theorem quC_size (q : Qu) : (quC q).size = 18 := by unfold quC quL; simp [padW_length]
theorem quL_one (q : Qu) : ∀ v ∈ quL q, v.oneCell' = true := fun v hv => by
  unfold quL at hv
  simp only [List.mem_cons, List.mem_map] at hv
  rcases hv with rfl | rfl | ⟨s, _, rfl⟩ <;> rfl
def noQ : Qu := ⟨0, 0, []⟩
def quOk (q : Qu) : Prop := i64 q.obj ∧ i64 q.op ∧ ∀ s ∈ q.who, s.size ≤ maxLen
theorem key_qu : Keyed Try.prog 94 := Keyed.of_law (deep_law_laid laid0 (m := 4) (by omega) (of_decide_eq_true (by kernel_rfl)) (by kernel_rfl) (by kernel_rfl))
theorem mapM_some {α β : Type} {f : α → Option β} : ∀ {l : List α}, (∀ a ∈ l, ∃ b, f a = some b) → ∃ bs, l.mapM f = some bs
  | [], _ => ⟨[], by simp⟩
  | a :: l, h => by
    obtain ⟨b, hb⟩ := h a (by simp)
    obtain ⟨bs, hbs⟩ := mapM_some (l := l) (fun x hx => h x (by simp [hx]))
    exact ⟨b :: bs, by simp [List.mapM_cons, hb, hbs]⟩
theorem wf_i64 {a : Int} (h : i64 a) : (Lit.int .i64 a).wf = true := WalkArith.wf_i64 h
theorem cells_qu : Try.prog.cellsOf 94 = 18 := by kernel_rfl
theorem cells_two : Try.prog.cellsOf 91 = 2 := by kernel_rfl
theorem cells_sixteen : Try.prog.cellsOf 92 = 16 := by kernel_rfl
theorem cells_wd : Try.prog.cellsOf 51 = 1 := by kernel_rfl
theorem cells_it : Try.prog.cellsOf 3 = 1 := by kernel_rfl
theorem kl_int {n : Nat} {a : Int} (h : i64 a) : Try.prog.keyLits (n + 1) 3 [.int .i64 a] = some [.int .i64 a] := by
  simp [Program.keyLits, Try.underlying3, wf_i64 h]
theorem kl_word {n : Nat} {s : ByteArray} (h : s.size ≤ maxLen) : Try.prog.keyLits (n + 1) 51 [.string s] = some [.string s.data.toList] := by
  simp [Program.keyLits, Try.underlying51, h]
theorem kl_two {n : Nat} {a b : Int} (h : i64 a) (hb : i64 b) : ∃ l, Try.prog.keyLits (n + 2) 91 [.int .i64 a, .int .i64 b] = some l := by
  unfold Program.keyLits
  simp only [Try.underlying91, cells_two, cells_it, List.length_cons, List.length_nil, if_true]
  refine ⟨[.int .i64 a, .int .i64 b], ?_⟩
  simp [List.range_succ, kl_int h, kl_int hb]
theorem kl_sixteen {n : Nat} {l : List ByteArray} (hl : l.length = 16) (h : ∀ s ∈ l, s.size ≤ maxLen) : ∃ x, Try.prog.keyLits (n + 2) 92 (l.map Value.string) = some x := by
  unfold Program.keyLits
  simp only [Try.underlying92, cells_sixteen, cells_wd, List.length_map, hl, if_true]
  obtain ⟨bs, hbs⟩ := mapM_some (f := fun i => Try.prog.keyLits (n + 1) 51 (((l.map Value.string).drop (i * 1)).take 1)) (l := List.range 16) (fun i hi => by
    have hil : i < l.length := by rw [hl]; exact List.mem_range.1 hi
    refine ⟨[.string l[i].data.toList], ?_⟩
    rw [Nat.mul_one, List.drop_eq_getElem_cons (by simpa using hil), List.take_succ_cons, List.take_zero, List.getElem_map]
    exact kl_word (h _ (List.getElem_mem hil)))
  exact ⟨bs.flatten, by rw [hbs]; rfl⟩
theorem padW_ok {l : List ByteArray} (h : ∀ s ∈ l, s.size ≤ maxLen) : ∀ s ∈ padW l, s.size ≤ maxLen := fun s hs => by
  unfold padW at hs
  rcases List.mem_append.1 hs with hs | hs
  · exact h s (List.mem_of_mem_take hs)
  · rw [List.eq_of_mem_replicate hs]
    unfold maxLen
    decide
theorem types_at : Try.prog.types.size + 1 = (Try.prog.types.size - 3) + 4 := by kernel_rfl
theorem types_size : ∃ N, Try.prog.types.size + 1 = N + 4 := ⟨_, types_at⟩
theorem keyT_qu : Try.prog.keyType 94 = true := by kernel_rfl
theorem kl_qu {n : Nat} {q : Qu} (h : quOk q) : ∃ l, Try.prog.keyLits (n + 3) 94 (quL q) = some l := by
  obtain ⟨l1, h1⟩ := kl_two (n := n) h.1 h.2.1
  obtain ⟨l2, h2⟩ := kl_sixteen (n := n) (padW_length q.who) (padW_ok h.2.2)
  refine ⟨l1 ++ l2, ?_⟩
  have hlen : (quL q).length = 18 := by unfold quL; simp [padW_length]
  have e1 : (quL q).take 2 = [.int .i64 q.obj, .int .i64 q.op] := rfl
  have e2 : ((quL q).drop 2).take 16 = (padW q.who).map Value.string := by
    show ((padW q.who).map Value.string).take 16 = _
    rw [List.take_of_length_le (by simp [padW_length])]
  rw [← e1] at h1
  rw [← e2] at h2
  unfold Program.keyLits
  simp [Try.underlying94, cells_qu, cells_two, cells_sixteen, hlen, h1, h2]
theorem isK_qu {q : Qu} (h : quOk q) : IsK Try.prog 94 (quV q) := by
  obtain ⟨N, hN⟩ := types_size
  obtain ⟨l, hl⟩ := kl_qu (n := N + 1) h
  refine ⟨.string (keyBytes l), ?_⟩
  unfold keyOf
  rw [Try.underlying94, hN]
  simp [Value.formed, Try.underlying94, cells_qu, keyT_qu, Value.cells, quV, quC_size]
  simp [quC, hl]
/-- Two questions of sets that may be are the same key just if they are the same. -/
theorem setR_parts {l : List ByteArray} (h : setR l = true) : 1 ≤ l.length ∧ l.length ≤ 16 ∧ ∀ s ∈ l, mayR s = true := by
  unfold setR at h
  simp only [Bool.and_eq_true, decide_eq_true_eq] at h
  obtain ⟨h1, h2, h3⟩ := h
  refine ⟨h1, h2, fun s hs => ?_⟩
  obtain ⟨i, hi, rfl⟩ := List.getElem_of_mem hs
  have := List.all_eq_true.1 h3 i (List.mem_range.2 hi)
  unfold goodAt at this
  rw [wordAt_eq hi] at this
  exact (Bool.and_eq_true_iff.1 this).1
theorem mayR_pos {s : ByteArray} (h : mayR s = true) : 0 < s.size := by
  unfold mayR lenR at h
  simp only [Bool.and_eq_true, decide_eq_true_eq] at h
  omega
theorem padW_back {a : List ByteArray} (ha : setR a = true) : (padW a).filter (fun s => decide (0 < s.size)) = a := by
  obtain ⟨h1, h2, h3⟩ := setR_parts ha
  unfold padW
  rw [List.take_of_length_le h2, List.filter_append, List.filter_eq_self.2 (fun s hs => decide_eq_true (mayR_pos (h3 s hs))), List.filter_eq_nil_iff.2 (fun s hs => by
    rw [List.eq_of_mem_replicate hs]
    decide), List.append_nil]
theorem padW_inj {a b : List ByteArray} (ha : setR a = true) (hb : setR b = true) (h : padW a = padW b) : a = b := by
  rw [← padW_back ha, ← padW_back hb, h]
theorem quV_inj {p q : Qu} (ha : setR p.who = true) (hb : setR q.who = true) (h : quV p = quV q) : p = q := by
  unfold quV quC at h
  injection h with h
  have h := List.toArray_inj h
  unfold quL at h
  injection h with h1 h
  injection h with h2 h
  injection h1 with _ h1
  injection h2 with _ h2
  have h3 : padW p.who = padW q.who := List.map_inj_right (fun x y e => by injection e) |>.1 h
  obtain ⟨po, pp, pw⟩ := p
  obtain ⟨qo, qp, qw⟩ := q
  simp only at h1 h2 h3 ha hb
  rw [h1, h2, padW_inj ha hb h3]
end Go.Proofs.Ytnicfiochnkjbaa
