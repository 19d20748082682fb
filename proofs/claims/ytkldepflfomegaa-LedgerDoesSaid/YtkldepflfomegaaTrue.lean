/- The law LedgerTrue: words and plain facts. -/
import Derived.Test.YtkldepflfomegaaBookP
import Derived.Test.YtkldepflfomegaaMapR
import Derived.Test.YtkldepflfomegaaMakers
namespace Go.Proofs.Ytkldepflfomegaa
open Go.RowKit
open Go.Maps (Keyed)

/-! ### the law's own keys -/
section
variable {n : Nat} {a b c d : Int} {s : ByteArray}
theorem cells_lsig : Try.prog.cellsOf 59 = 2 := by kernel_rfl
theorem cells_lmade : Try.prog.cellsOf 61 = 5 := by kernel_rfl
theorem kl_lsig (h : u16 a) (hs : s.size ≤ maxLen) : ∃ l, Try.prog.keyLits (n + 2) 59 [.int .u16 a, .string s] = some l := by
  refine ⟨[.int .u16 a, .string s.data.toList], ?_⟩
  unfold Program.keyLits
  simp [Try.underlying59, cells_lsig, cells_atom, cells_string, kl_atom h, kl_string hs]
theorem kl_lmade (h : u16 a) (hb : i64 b) (hc : i64 c) (hs : s.size ≤ maxLen) (hd : i64 d) : ∃ l, Try.prog.keyLits (n + 3) 61 [.int .u16 a, .int .i64 b, .int .i64 c, .string s, .int .i64 d] = some l := by
  obtain ⟨l, hl⟩ := kl_mac (n := n) h hb hc hs
  refine ⟨l ++ [.int .i64 d], ?_⟩
  unfold Program.keyLits
  simp [Try.underlying61, cells_lmade, cells_mac, cells_int, hl, kl_int hd]
theorem keyT_lsig : Try.prog.keyType 59 = true := by kernel_rfl
theorem keyT_lmade : Try.prog.keyType 61 = true := by kernel_rfl
theorem isK_lsig (h : u16 a) (hs : s.size ≤ maxLen) : IsK Try.prog 59 (.agg #[.int .u16 a, .string s]) := by
  obtain ⟨N, hN⟩ := types_size
  obtain ⟨l, hl⟩ := kl_lsig (n := N + 2) h hs
  refine ⟨.string (keyBytes l), ?_⟩
  unfold keyOf
  rw [Try.underlying59, hN]
  simp [Value.formed, Try.underlying59, cells_lsig, keyT_lsig, Value.cells, hl]
theorem isK_lmade (h : u16 a) (hb : i64 b) (hc : i64 c) (hs : s.size ≤ maxLen) (hd : i64 d) : IsK Try.prog 61 (.agg #[.int .u16 a, .int .i64 b, .int .i64 c, .string s, .int .i64 d]) := by
  obtain ⟨N, hN⟩ := types_size
  obtain ⟨l, hl⟩ := kl_lmade (n := N + 1) h hb hc hs hd
  refine ⟨.string (keyBytes l), ?_⟩
  unfold keyOf
  rw [Try.underlying61, hN]
  simp [Value.formed, Try.underlying61, cells_lmade, keyT_lmade, Value.cells, hl]
theorem key_lsig : Keyed Try.prog 59 := Keyed.of_law (deep_law_laid laid (m := 4) (by omega) (of_decide_eq_true (by kernel_rfl)) (by kernel_rfl) (by kernel_rfl))
theorem key_lmade : Keyed Try.prog 61 := Keyed.of_law (deep_law_laid laid (m := 4) (by omega) (of_decide_eq_true (by kernel_rfl)) (by kernel_rfl) (by kernel_rfl))
end
theorem zero_bool (w : World) : (zeroValue 4).run Try.prog w = .ok (.bool false) w := by kernel_rfl

/-! ### a set, as a map to true -/
def SetB (w : World) (P : Program) (k : TypeId) (b : Nat) (xs : List Value) : Prop := MapAt w P k b (xs.map fun x => (x, .bool true))
section
variable {P : Program} {k t e : TypeId} {w : World} {b : Nat} {xs : List Value} {key : Value} {r : Bool}
theorem SetB.put (h : SetB w P k b xs) (K : Keyed P k) (ht : P.underlying t = some (.map k e)) (hkey : IsK P k key) (hr : r = true ↔ key ∈ xs) :
    ∃ w2, (Instr.mapUpdate t (.map (some b)) key (.bool true)).run P w = .ok () w2 ∧ SetB w2 P k b (if r then xs else xs ++ [key]) ∧ Turned (fun i => i = b) w w2 := by
  cases r with
  | true => exact MapAt.put_same h K ht (List.mem_map.2 ⟨key, hr.1 rfl, rfl⟩)
  | false =>
    obtain ⟨w2, h1, h2, h3⟩ := MapAt.put_at h K ht hkey (by
      intro p hp e
      obtain ⟨x, hx, rfl⟩ := List.mem_map.1 hp
      subst e
      exact absurd (hr.2 hx) (by simp)) (.bool true)
    refine ⟨w2, h1, ?_, h3⟩
    show MapAt w2 P k b ((xs ++ [key]).map _)
    rw [List.map_append]
    exact h2
theorem SetB.look (h : SetB w P k b xs) (K : Keyed P k) (ht : P.underlying t = some (.map k e)) (hz : (zeroValue e).run P w = .ok (.bool false) w) (hkey : IsK P k key) (hr : r = true ↔ key ∈ xs) :
    (Instr.lookup t (.map (some b)) key false).run P w = .ok (.bool r) w := by
  cases r with
  | true => exact MapAt.look_yes h K ht (List.mem_map.2 ⟨key, hr.1 rfl, rfl⟩) false
  | false =>
    refine MapAt.look_no h K ht hz hkey (fun p hp => ?_) false
    obtain ⟨x, hx, rfl⟩ := List.mem_map.1 hp
    intro e
    subst e
    exact absurd (hr.2 hx) (by simp)
theorem SetB.turned {S : Nat → Prop} {w' : World} (h : SetB w P k b xs) (hT : Turned S w w') (hb : ¬ S b) : SetB w' P k b xs := MapAt.turned h hT hb
end

theorem sign_zero {S : List Sig} {k : Int} {b : ByteArray} (h : (signR S k b).1 = 0) : (signR S k b).2 = if hasB (k, b) S then S else S ++ [(k, b)] := by
  unfold signR at h ⊢
  repeat' split
  all_goals simp_all
theorem sign_else {S : List Sig} {k : Int} {b : ByteArray} (h : (signR S k b).1 ≠ 0) : (signR S k b).2 = S := by
  unfold signR at h ⊢
  repeat' split
  all_goals simp_all
theorem write_zero {M : List Made} {m : Mac} {y : Int} (h : (writeR M m y).1 = 0) : (writeR M m y).2 = if hasB (m, y) M then M else M ++ [(m, y)] := by
  unfold writeR at h ⊢
  repeat' split
  all_goals simp_all
theorem write_else {M : List Made} {m : Mac} {y : Int} (h : (writeR M m y).1 ≠ 0) : (writeR M m y).2 = M := by
  unfold writeR at h ⊢
  repeat' split
  all_goals simp_all
theorem steal_zero {T : List Int} {a : Int} (h : (stealR T a).1 = 0) : (stealR T a).2 = if hasB a T then T else T ++ [a] := by
  unfold stealR at h ⊢
  split
  · rfl
  · simp_all
theorem steal_else {T : List Int} {a : Int} (h : (stealR T a).1 ≠ 0) : (stealR T a).2 = T := by
  unfold stealR at h ⊢
  split
  · simp_all
  · rfl
theorem map_if {α : Type} {f : α → Value} {r : Bool} {l : List α} {x : α} : (if r then l else l ++ [x]).map f = if r then l.map f else l.map f ++ [f x] := by
  cases r <;> simp

/-! ### what the loop holds -/
def PrT (b1 b2 b3 xb k : Nat) : Prop := k = b1 ∨ k = b2 ∨ k = b3 ∨ k = xb
structure TrueAt (w wr : World) (p b1 b2 b3 : Nat) (S : List Sig) (M : List Made) (T : List Int) (Pr : Nat → Prop) : Prop where
  book : BookP w wr p S M T Pr
  m1 : SetB wr Try.prog 59 b1 (S.map sigV)
  m2 : SetB wr Try.prog 61 b2 (M.map madeV)
  m3 : SetB wr Try.prog 34 b3 (T.map atomV)
  o1 : okS S
  o2 : okM M
  o3 : okT T
structure Three (w : World) (b1 b2 b3 : Nat) : Prop where
  d12 : b1 ≠ b2
  d13 : b1 ≠ b3
  d23 : b2 ≠ b3
  l1 : w.heap.size ≤ b1
  l2 : w.heap.size ≤ b2
  l3 : w.heap.size ≤ b3

section
variable {w wr wr' : World} {p b1 b2 b3 xb : Nat} {S : List Sig} {M : List Made} {T : List Int} {Pr Pr' : Nat → Prop}
theorem TrueAt.kept (h : TrueAt w wr p b1 b2 b3 S M T Pr) (hK : Kept wr wr') : TrueAt w wr' p b1 b2 b3 S M T Pr :=
  ⟨h.book.kept hK, h.m1.turned hK (fun h => h), h.m2.turned hK (fun h => h), h.m3.turned hK (fun h => h), h.o1, h.o2, h.o3⟩
theorem TrueAt.protect (h : TrueAt w wr p b1 b2 b3 S M T Pr) (hK : Kept wr wr') (hP : ∀ k, Pr' k → Pr k ∨ wr.heap.size ≤ k) : TrueAt w wr' p b1 b2 b3 S M T Pr' :=
  ⟨h.book.protect hK hP, h.m1.turned hK (fun h => h), h.m2.turned hK (fun h => h), h.m3.turned hK (fun h => h), h.o1, h.o2, h.o3⟩
theorem TrueAt.fewer (h : TrueAt w wr p b1 b2 b3 S M T Pr) (hP : ∀ k, Pr' k → Pr k) : TrueAt w wr p b1 b2 b3 S M T Pr' := ⟨h.book.fewer hP, h.m1, h.m2, h.m3, h.o1, h.o2, h.o3⟩

/-- Sign, then the store that the law makes if it went well. -/
theorem true_sign {k : Int} {b : ByteArray} (h : TrueAt w wr p b1 b2 b3 S M T (PrT b1 b2 b3 xb)) (hD : Three w b1 b2 b3) (hx : xb < wr.heap.size) (hk : u16 k) (hb : b.size ≤ maxLen) (hl : S.length ≤ 2000) :
    Calls Try.prog 11 #[.pointer (some ⟨p, 0, none⟩), .int .u16 k, .string b] wr fun e wr' => e = .returned (.int .i64 (signR S k b).1) ∧ Turned (fun k => w.heap.size ≤ k ∧ ¬ PrT b1 b2 b3 xb k) wr wr' ∧
      ((signR S k b).1 ≠ 0 → TrueAt w wr' p b1 b2 b3 (signR S k b).2 M T (PrT b1 b2 b3 xb)) ∧
      ((signR S k b).1 = 0 → ∃ w2, (Instr.mapUpdate 55 (.map (some b1)) (.agg #[.int .u16 k, .string b]) (.bool true)).run Try.prog wr' = .ok () w2 ∧ TrueAt w w2 p b1 b2 b3 (signR S k b).2 M T (PrT b1 b2 b3 xb) ∧ Turned (fun i => i = b1) wr' w2) := by
  have hlt : ∀ k, PrT b1 b2 b3 xb k → k < wr.heap.size := by
    rintro k (rfl | rfl | rfl | rfl)
    · exact h.m1.lt
    · exact h.m2.lt
    · exact h.m3.lt
    · exact hx
  refine (sign_p h.book hlt hk hb hl).mono ?_
  rintro e wr' ⟨he, h1, h2⟩
  have n1 := h.m1.turned h2 (fun hh => hh.2 (.inl rfl))
  have n2 := h.m2.turned h2 (fun hh => hh.2 (.inr (.inl rfl)))
  have n3 := h.m3.turned h2 (fun hh => hh.2 (.inr (.inr (.inl rfl))))
  refine ⟨he, h2, fun hne => ?_, fun h0 => ?_⟩
  · rw [sign_else hne] at h1 ⊢
    exact ⟨h1, n1, n2, n3, h.o1, h.o2, h.o3⟩
  · obtain ⟨w2, hu, hs, ht⟩ := n1.put key_lsig Try.underlying55 (isK_lsig hk hb) (r := hasB (k, b) S) (dec_mem sigV_inj)
    refine ⟨w2, hu, ⟨h1.beside ht (fun i hi => ⟨.inl hi, by rw [hi]; exact hD.l1⟩), ?_, n2.turned ht (Ne.symm hD.d12), n3.turned ht (Ne.symm hD.d13), okS_sign h.o1 hk hb, h.o2, h.o3⟩, ht⟩
    rw [sign_zero h0, map_if]
    exact hs
theorem true_write {m : Mac} {y : Int} (h : TrueAt w wr p b1 b2 b3 S M T (PrT b1 b2 b3 xb)) (hD : Three w b1 b2 b3) (hx : xb < wr.heap.size) (hm : macOk m) (hy : i64 y) (hl : M.length ≤ 2000) :
    Calls Try.prog 13 #[.pointer (some ⟨p, 0, none⟩), macV m, .int .i64 y] wr fun e wr' => e = .returned (.int .i64 (writeR M m y).1) ∧ Turned (fun k => w.heap.size ≤ k ∧ ¬ PrT b1 b2 b3 xb k) wr wr' ∧
      ((writeR M m y).1 ≠ 0 → TrueAt w wr' p b1 b2 b3 S (writeR M m y).2 T (PrT b1 b2 b3 xb)) ∧
      ((writeR M m y).1 = 0 → ∃ w2, (Instr.mapUpdate 56 (.map (some b2)) (madeV (m, y)) (.bool true)).run Try.prog wr' = .ok () w2 ∧ TrueAt w w2 p b1 b2 b3 S (writeR M m y).2 T (PrT b1 b2 b3 xb) ∧ Turned (fun i => i = b2) wr' w2) := by
  have hlt : ∀ k, PrT b1 b2 b3 xb k → k < wr.heap.size := by
    rintro k (rfl | rfl | rfl | rfl)
    · exact h.m1.lt
    · exact h.m2.lt
    · exact h.m3.lt
    · exact hx
  refine (write_p h.book hlt hm hy hl).mono ?_
  rintro e wr' ⟨he, h1, h2⟩
  have n1 := h.m1.turned h2 (fun hh => hh.2 (.inl rfl))
  have n2 := h.m2.turned h2 (fun hh => hh.2 (.inr (.inl rfl)))
  have n3 := h.m3.turned h2 (fun hh => hh.2 (.inr (.inr (.inl rfl))))
  refine ⟨he, h2, fun hne => ?_, fun h0 => ?_⟩
  · rw [write_else hne] at h1 ⊢
    exact ⟨h1, n1, n2, n3, h.o1, h.o2, h.o3⟩
  · obtain ⟨w2, hu, hs, ht⟩ := n2.put key_lmade Try.underlying56 (isK_lmade hm.1 hm.2.1 hm.2.2.1 hm.2.2.2 hy) (r := hasB (m, y) M) (dec_mem madeV_inj)
    refine ⟨w2, hu, ⟨h1.beside ht (fun i hi => ⟨.inr (.inl hi), by rw [hi]; exact hD.l2⟩), n1.turned ht hD.d12, ?_, n3.turned ht (Ne.symm hD.d23), h.o1, okM_write h.o2 hm hy, h.o3⟩, ht⟩
    rw [write_zero h0, map_if]
    exact hs
theorem true_steal {a : Int} (h : TrueAt w wr p b1 b2 b3 S M T (PrT b1 b2 b3 xb)) (hD : Three w b1 b2 b3) (hx : xb < wr.heap.size) (ha : u16 a) (hl : T.length < 3000) :
    Calls Try.prog 15 #[.pointer (some ⟨p, 0, none⟩), .int .u16 a] wr fun e wr' => e = .returned (.int .i64 (stealR T a).1) ∧ Turned (fun k => w.heap.size ≤ k ∧ ¬ PrT b1 b2 b3 xb k) wr wr' ∧
      ((stealR T a).1 ≠ 0 → TrueAt w wr' p b1 b2 b3 S M (stealR T a).2 (PrT b1 b2 b3 xb)) ∧
      ((stealR T a).1 = 0 → ∃ w2, (Instr.mapUpdate 57 (.map (some b3)) (.int .u16 a) (.bool true)).run Try.prog wr' = .ok () w2 ∧ TrueAt w w2 p b1 b2 b3 S M (stealR T a).2 (PrT b1 b2 b3 xb) ∧ Turned (fun i => i = b3) wr' w2) := by
  have hlt : ∀ k, PrT b1 b2 b3 xb k → k < wr.heap.size := by
    rintro k (rfl | rfl | rfl | rfl)
    · exact h.m1.lt
    · exact h.m2.lt
    · exact h.m3.lt
    · exact hx
  refine (steal_p h.book hlt ha hl).mono ?_
  rintro e wr' ⟨he, h1, h2⟩
  have n1 := h.m1.turned h2 (fun hh => hh.2 (.inl rfl))
  have n2 := h.m2.turned h2 (fun hh => hh.2 (.inr (.inl rfl)))
  have n3 := h.m3.turned h2 (fun hh => hh.2 (.inr (.inr (.inl rfl))))
  refine ⟨he, h2, fun hne => ?_, fun h0 => ?_⟩
  · rw [steal_else hne] at h1 ⊢
    exact ⟨h1, n1, n2, n3, h.o1, h.o2, h.o3⟩
  · obtain ⟨w2, hu, hs, ht⟩ := n3.put key_atom Try.underlying57 (isK_atom ha) (r := hasB a T) (dec_mem atomV_inj)
    refine ⟨w2, hu, ⟨h1.beside ht (fun i hi => ⟨.inr (.inr (.inl hi)), by rw [hi]; exact hD.l3⟩), n1.turned ht hD.d13, n2.turned ht hD.d23, ?_, h.o1, h.o2, okT_steal h.o3 ha⟩, ht⟩
    rw [steal_zero h0, map_if]
    exact hs

theorem TrueAt.beside {r : Nat} (h : TrueAt w wr p b1 b2 b3 S M T (PrT b1 b2 b3 r)) (hT : Turned (fun i => i = r) wr wr') (hr : w.heap.size ≤ r) (h1 : b1 ≠ r) (h2 : b2 ≠ r) (h3 : b3 ≠ r) : TrueAt w wr' p b1 b2 b3 S M T (PrT b1 b2 b3 r) :=
  ⟨h.book.beside hT (fun k hk => ⟨.inr (.inr (.inr hk)), by rw [hk]; exact hr⟩), h.m1.turned hT h1, h.m2.turned hT h2, h.m3.turned hT h3, h.o1, h.o2, h.o3⟩
theorem TrueAt.renew (h : TrueAt w wr p b1 b2 b3 S M T (PrT b1 b2 b3 xb)) (hK : Kept wr wr') : TrueAt w wr' p b1 b2 b3 S M T (PrT b1 b2 b3 wr.heap.size) := h.protect hK (by
  rintro k (h | h | h | h)
  · exact .inl (.inl h)
  · exact .inl (.inr (.inl h))
  · exact .inl (.inr (.inr (.inl h)))
  · exact .inr (by omega))

def ActB (W : World) (xb : Nat) (kind key a wy sq : Int) (s : ByteArray) (y : Int) : Prop := Blk W xb 38 #[.int .i64 kind, .int .u16 key, .int .u16 a, .int .i64 wy, .int .i64 sq, .string s, .int .i64 y]
theorem true_facts {W : World} {key a wy sq kind y : Int} {s : ByteArray} (h : TrueAt w W p b1 b2 b3 S M T Pr) (hX : ActB W xb kind key a wy sq s y) (hk : u16 key) (hs : s.size ≤ maxLen) :
    W.cell? ⟨xb, 1, none⟩ = some (.int .u16 key) ∧ W.cell? ⟨xb, 5, none⟩ = some (.string s) ∧
    (Instr.lookup 55 (.map (some b1)) (.agg #[.int .u16 key, .string s]) false).run Try.prog W = .ok (.bool (hasB (key, s) S)) W ∧
    (Instr.lookup 57 (.map (some b3)) (.int .u16 key) false).run Try.prog W = .ok (.bool (hasB key T)) W :=
  ⟨Blk.cell hX 1, Blk.cell hX 5, h.m1.look key_lsig Try.underlying55 (zero_bool W) (isK_lsig hk hs) (dec_mem sigV_inj), h.m3.look key_atom Try.underlying57 (zero_bool W) (isK_atom hk) (dec_mem atomV_inj)⟩
theorem wrote_mem {M : List Made} {m : Mac} {y : Int} : y ∈ wroteOf M m ↔ (m, y) ∈ M := by
  simp only [wroteOf, List.mem_map, List.mem_filter, decide_eq_true_eq]
  constructor
  · rintro ⟨⟨a, b⟩, ⟨h, e⟩, e2⟩
    simp at e e2
    subst e e2
    exact h
  · exact fun h => ⟨(m, y), ⟨h, rfl⟩, rfl⟩
theorem true_look {W : World} {a wy sq y : Int} {s : ByteArray} (h : TrueAt w W p b1 b2 b3 S M T Pr) (hin : ((a, wy, sq, s), y) ∈ M) :
    (Instr.lookup 56 (.map (some b2)) (.agg #[.int .u16 a, .int .i64 wy, .int .i64 sq, .string s, .int .i64 y]) false).run Try.prog W = .ok (.bool true) W := by
  obtain ⟨hm, hy⟩ := h.o2 _ hin
  exact h.m2.look key_lmade Try.underlying56 (zero_bool W) (isK_lmade hm.1 hm.2.1 hm.2.2.1 hm.2.2.2 hy) (by simp only [true_iff]; exact (mem_map_inj (f := madeV) madeV_inj (x := ((a, wy, sq, s), y))).2 hin)
end
end Go.Proofs.Ytkldepflfomegaa
