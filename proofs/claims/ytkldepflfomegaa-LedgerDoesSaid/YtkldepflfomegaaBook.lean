/- What a book is in memory, and plain words for what it holds. -/
import Derived.Test.YtkldepflfomegaaPut
namespace Go.Proofs.Ytkldepflfomegaa
open Go.RowKit
open Go.Maps (Keyed)

/-! ### plain words -/
instance decBytes : DecidableEq ByteArray := fun a b => decidable_of_iff (a.data = b.data) ⟨fun h => by cases a; cases b; simpa using h, fun h => by rw [h]⟩
abbrev Sig := Int × ByteArray
abbrev Mac := Int × Int × Int × ByteArray
abbrev Made := Mac × Int
def sigV (x : Sig) : Value := .agg #[.int .u16 x.1, .string x.2]
def macV (x : Mac) : Value := .agg #[.int .u16 x.1, .int .i64 x.2.1, .int .i64 x.2.2.1, .string x.2.2.2]
def madeV (x : Made) : Value := .agg #[.int .u16 x.1.1, .int .i64 x.1.2.1, .int .i64 x.1.2.2.1, .string x.1.2.2.2, .int .i64 x.2]
def atomV (x : Int) : Value := .int .u16 x
theorem sigV_inj {x y : Sig} (h : sigV x = sigV y) : x = y := by
  obtain ⟨a, b⟩ := x; obtain ⟨c, d⟩ := y
  simpa [sigV] using h
theorem macV_inj {x y : Mac} (h : macV x = macV y) : x = y := by
  obtain ⟨a, b, c, d⟩ := x; obtain ⟨e, f, g, i⟩ := y
  simpa [macV] using h
theorem madeV_inj {x y : Made} (h : madeV x = madeV y) : x = y := by
  obtain ⟨⟨a, b, c, d⟩, j⟩ := x; obtain ⟨⟨e, f, g, i⟩, k⟩ := y
  simpa [madeV, and_assoc] using h
theorem atomV_inj {x y : Int} (h : atomV x = atomV y) : x = y := by simpa [atomV] using h
theorem mem_map_inj {α : Type} {f : α → Value} (hf : ∀ {x y}, f x = f y → x = y) {x : α} {l : List α} : f x ∈ l.map f ↔ x ∈ l := by
  rw [List.mem_map]
  exact ⟨fun ⟨y, hy, e⟩ => hf e ▸ hy, fun h => ⟨x, h, rfl⟩⟩
/-- Is x on the list? -/
def hasB {α : Type} [DecidableEq α] (x : α) (l : List α) : Bool := l.any fun y => decide (y = x)
theorem hasB_iff {α : Type} [DecidableEq α] {x : α} {l : List α} : hasB x l = true ↔ x ∈ l := by simp [hasB]
theorem dec_mem {α : Type} [DecidableEq α] {f : α → Value} (hf : ∀ {x y}, f x = f y → x = y) {x : α} {l : List α} : hasB x l = true ↔ f x ∈ l.map f := by
  rw [mem_map_inj hf, hasB_iff]

def u16 (a : Int) : Prop := 0 ≤ a ∧ a ≤ 65535
def i64 (a : Int) : Prop := -9223372036854775808 ≤ a ∧ a ≤ 9223372036854775807
def macOk (m : Mac) : Prop := u16 m.1 ∧ i64 m.2.1 ∧ i64 m.2.2.1 ∧ m.2.2.2.size ≤ maxLen

theorem wf_u16 {a : Int} (h : u16 a) : (Lit.int .u16 a).wf = true := by
  obtain ⟨h1, h2⟩ := h
  simp [Lit.wf, IntKind.min, IntKind.max, IntKind.signed, IntKind.bits]; omega
theorem wf_i64 {a : Int} (h : i64 a) : (Lit.int .i64 a).wf = true := WalkArith.wf_i64 h

section
variable {n : Nat} {a b c d : Int} {s : ByteArray}
theorem cells_atom : Try.prog.cellsOf 34 = 1 := by kernel_rfl
theorem cells_int : Try.prog.cellsOf 3 = 1 := by kernel_rfl
theorem cells_int64 : Try.prog.cellsOf 2 = 1 := by kernel_rfl
theorem cells_string : Try.prog.cellsOf 9 = 1 := by kernel_rfl
theorem cells_sig : Try.prog.cellsOf 83 = 2 := by kernel_rfl
theorem cells_mac : Try.prog.cellsOf 36 = 4 := by kernel_rfl
theorem cells_made : Try.prog.cellsOf 88 = 5 := by kernel_rfl
theorem types_at : Try.prog.types.size + 1 = (Try.prog.types.size - 3) + 4 := by kernel_rfl
theorem types_size : ∃ N, Try.prog.types.size + 1 = N + 4 := ⟨_, types_at⟩
theorem kl_atom (h : u16 a) : Try.prog.keyLits (n + 1) 34 [.int .u16 a] = some [.int .u16 a] := by
  simp [Program.keyLits, Try.underlying34, wf_u16 h]
theorem kl_int (h : i64 a) : Try.prog.keyLits (n + 1) 3 [.int .i64 a] = some [.int .i64 a] := by
  simp [Program.keyLits, Try.underlying3, wf_i64 h]
theorem kl_int64 (h : i64 a) : Try.prog.keyLits (n + 1) 2 [.int .i64 a] = some [.int .i64 a] := by
  simp [Program.keyLits, Try.underlying2, wf_i64 h]
theorem kl_string (h : s.size ≤ maxLen) : Try.prog.keyLits (n + 1) 9 [.string s] = some [.string s.data.toList] := by
  simp [Program.keyLits, Try.underlying9, h]
theorem kl_sig (h : u16 a) (hs : s.size ≤ maxLen) : ∃ l, Try.prog.keyLits (n + 2) 83 [.int .u16 a, .string s] = some l := by
  refine ⟨[.int .u16 a, .string s.data.toList], ?_⟩
  unfold Program.keyLits
  simp [Try.underlying83, cells_sig, cells_atom, cells_string, kl_atom h, kl_string hs]
theorem kl_mac (h : u16 a) (hb : i64 b) (hc : i64 c) (hs : s.size ≤ maxLen) : ∃ l, Try.prog.keyLits (n + 2) 36 [.int .u16 a, .int .i64 b, .int .i64 c, .string s] = some l := by
  refine ⟨[.int .u16 a, .int .i64 b, .int .i64 c, .string s.data.toList], ?_⟩
  unfold Program.keyLits
  simp [Try.underlying36, cells_mac, cells_atom, cells_int, cells_int64, cells_string, kl_atom h, kl_int hb, kl_int64 hc, kl_string hs]
theorem kl_made (h : u16 a) (hb : i64 b) (hc : i64 c) (hs : s.size ≤ maxLen) (hd : i64 d) : ∃ l, Try.prog.keyLits (n + 3) 88 [.int .u16 a, .int .i64 b, .int .i64 c, .string s, .int .i64 d] = some l := by
  obtain ⟨l, hl⟩ := kl_mac (n := n) h hb hc hs
  refine ⟨l ++ [.int .i64 d], ?_⟩
  unfold Program.keyLits
  simp [Try.underlying88, cells_made, cells_mac, cells_int, hl, kl_int hd]
theorem keyT_sig : Try.prog.keyType 83 = true := by kernel_rfl
theorem keyT_mac : Try.prog.keyType 36 = true := by kernel_rfl
theorem keyT_made : Try.prog.keyType 88 = true := by kernel_rfl
theorem isK_sig (h : u16 a) (hs : s.size ≤ maxLen) : IsK Try.prog 83 (.agg #[.int .u16 a, .string s]) := by
  obtain ⟨N, hN⟩ := types_size
  obtain ⟨l, hl⟩ := kl_sig (n := N + 2) h hs
  refine ⟨.string (keyBytes l), ?_⟩
  unfold keyOf
  rw [Try.underlying83, hN]
  simp [Value.formed, Try.underlying83, cells_sig, keyT_sig, Value.cells, hl]
theorem isK_mac (h : u16 a) (hb : i64 b) (hc : i64 c) (hs : s.size ≤ maxLen) : IsK Try.prog 36 (.agg #[.int .u16 a, .int .i64 b, .int .i64 c, .string s]) := by
  obtain ⟨N, hN⟩ := types_size
  obtain ⟨l, hl⟩ := kl_mac (n := N + 2) h hb hc hs
  refine ⟨.string (keyBytes l), ?_⟩
  unfold keyOf
  rw [Try.underlying36, hN]
  simp [Value.formed, Try.underlying36, cells_mac, keyT_mac, Value.cells, hl]
theorem isK_made (h : u16 a) (hb : i64 b) (hc : i64 c) (hs : s.size ≤ maxLen) (hd : i64 d) : IsK Try.prog 88 (.agg #[.int .u16 a, .int .i64 b, .int .i64 c, .string s, .int .i64 d]) := by
  obtain ⟨N, hN⟩ := types_size
  obtain ⟨l, hl⟩ := kl_made (n := N + 1) h hb hc hs hd
  refine ⟨.string (keyBytes l), ?_⟩
  unfold keyOf
  rw [Try.underlying88, hN]
  simp [Value.formed, Try.underlying88, cells_made, keyT_made, Value.cells, hl]
theorem isK_atom (h : u16 a) : IsK Try.prog 34 (.int .u16 a) := ⟨_, Go.Maps.keyOf_int_mk Try.underlying34 (wf_u16 h)⟩
end

/-! ### a book in memory -/
section
variable {P : Program} {k k' size size' p T : Nat} {w w' : World} {sv mv sv' mv' : Value} {xs xs' : List Value} {cs : Array Value}
theorem SetOf.own_ne {base e n : Nat} {v : Value} {ys : List Value} {b : Nat} (h : SetOf w P k mv xs) (hb : mv = .map (some b)) (ho : w.ownsRow base e size v n ys) : v.ownBlock ≠ some b := by
  rcases h with ⟨rfl, _⟩ | ⟨b', rfl, hm⟩
  · cases hb
  · cases hb; exact hm.own_ne ho
theorem SetOf.blk_ne {g b : Nat} {t : TypeId} (h : SetOf w P k mv xs) (hb : mv = .map (some b)) (hg : Blk w g t cs) : g ≠ b := by
  rcases h with ⟨rfl, _⟩ | ⟨b', rfl, hm⟩
  · cases hb
  · cases hb; exact hm.blk_ne hg
theorem SetOf.lt {b : Nat} (h : SetOf w P k mv xs) (hb : mv = .map (some b)) : b < w.heap.size := by
  rcases h with ⟨rfl, _⟩ | ⟨b', rfl, hm⟩
  · cases hb
  · cases hb; exact hm.lt
/-- What turns with one row leaves another one alone. -/
theorem row_far (h : RowIs w P k size sv mv xs) (h' : RowIs w P k' size' sv' mv' xs') (hk : k ≠ k') (hB : Blk w p T cs) (hT' : T ≠ k') (hd : ∀ b, mv = .map (some b) → mv' ≠ .map (some b)) :
    ∀ i, (sv'.ownBlock = some i ∨ mv' = .map (some i)) → ¬ (i = p ∨ sv.ownBlock = some i ∨ mv = .map (some i)) := by
  rintro i (hi | hi) (hj | hj | hj)
  · exact own_blk_ne h'.own hB (Ne.symm hT') (hj ▸ hi)
  · exact own_own_ne h.own h'.own hk hj hi
  · exact h.set.own_ne hj h'.own hi
  · exact h'.set.blk_ne hi hB hj.symm
  · exact h'.set.own_ne hi h.own hj
  · exact hd i hj hi
theorem row_stays (h' : RowIs w P k' size' sv' mv' xs') {S : Nat → Prop} (hT : Turned S w w') (hf : ∀ i, (sv'.ownBlock = some i ∨ mv' = .map (some i)) → ¬ S i) : RowIs w' P k' size' sv' mv' xs' :=
  h'.turned hT (fun g hg => hf g (.inl hg)) (fun b hb => hf b (.inr hb))
theorem row_lt (h' : RowIs w P k' size' sv' mv' xs') : ∀ i, (sv'.ownBlock = some i ∨ mv' = .map (some i)) → i < w.heap.size := by
  rintro i (hi | hi)
  · exact own_lt h'.own hi
  · exact h'.set.lt hi
end

structure BookIs (w : World) (p : Nat) (s1 m1 s2 m2 s3 m3 : Value) (S : List Sig) (M : List Made) (T : List Int) : Prop where
  blk : Blk w p 79 #[s1, m1, s2, m2, s3, m3]
  r1 : RowIs w Try.prog 83 2 s1 m1 (S.map sigV)
  r2 : RowIs w Try.prog 88 5 s2 m2 (M.map madeV)
  r3 : RowIs w Try.prog 34 1 s3 m3 (T.map atomV)
  d12 : ∀ b, m1 = .map (some b) → m2 ≠ .map (some b)
  d13 : ∀ b, m1 = .map (some b) → m3 ≠ .map (some b)
  d23 : ∀ b, m2 = .map (some b) → m3 ≠ .map (some b)

def BookFoot (p : Nat) (s1 m1 s2 m2 s3 m3 : Value) (k : Nat) : Prop :=
  k = p ∨ (s1.ownBlock = some k ∨ m1 = .map (some k)) ∨ (s2.ownBlock = some k ∨ m2 = .map (some k)) ∨ (s3.ownBlock = some k ∨ m3 = .map (some k))

/-- Block p is a book that holds S, M and T; all that it takes lies in F. -/
def BookAt (w : World) (F : Nat → Prop) (p : Nat) (S : List Sig) (M : List Made) (T : List Int) : Prop :=
  ∃ s1 m1 s2 m2 s3 m3, BookIs w p s1 m1 s2 m2 s3 m3 S M T ∧ ∀ k, BookFoot p s1 m1 s2 m2 s3 m3 k → F k

/-- F, and what has come since. -/
def Grow (F : Nat → Prop) (w w' : World) (k : Nat) : Prop := F k ∨ (w.heap.size ≤ k ∧ k < w'.heap.size)

section
variable {w w' : World} {F : Nat → Prop} {p : Nat} {S S' : List Sig} {M M' : List Made} {T T' : List Int}
theorem BookAt.turned {U : Nat → Prop} (h : BookAt w F p S M T) (hT : Turned U w w') (hd : ∀ k, F k → ¬ U k) : BookAt w' F p S M T := by
  obtain ⟨s1, m1, s2, m2, s3, m3, hb, hf⟩ := h
  exact ⟨s1, m1, s2, m2, s3, m3, ⟨hb.blk.turned hT (hd _ (hf _ (.inl rfl))), row_stays hb.r1 hT (fun i hi => hd i (hf i (.inr (.inl hi)))), row_stays hb.r2 hT (fun i hi => hd i (hf i (.inr (.inr (.inl hi))))),
    row_stays hb.r3 hT (fun i hi => hd i (hf i (.inr (.inr (.inr hi))))), hb.d12, hb.d13, hb.d23⟩, hf⟩
theorem BookAt.kept (h : BookAt w F p S M T) (hT : Kept w w') : BookAt w' F p S M T := h.turned hT (fun _ _ h => h)
theorem BookAt.wider {G : Nat → Prop} (h : BookAt w F p S M T) (hG : ∀ k, F k → G k) : BookAt w G p S M T := by
  obtain ⟨s1, m1, s2, m2, s3, m3, hb, hf⟩ := h
  exact ⟨s1, m1, s2, m2, s3, m3, hb, fun k hk => hG k (hf k hk)⟩

theorem book_next1 {s1 m1 s2 m2 s3 m3 : Value} (hb : BookIs w p s1 m1 s2 m2 s3 m3 S M T) (hf : ∀ k, BookFoot p s1 m1 s2 m2 s3 m3 k → F k) (hN : Next_ Try.prog 83 2 p 79 0 #[s1, m1, s2, m2, s3, m3] s1 m1 (S'.map sigV) w w') :
    BookAt w' (Grow F w w') p S' M T ∧ Turned F w w' := by
  obtain ⟨t1, n1, hB, hR, hT, g1, g2⟩ := hN
  have far2 := row_far hb.r1 hb.r2 (by decide) hb.blk (by decide) hb.d12
  have far3 := row_far hb.r1 hb.r3 (by decide) hb.blk (by decide) hb.d13
  refine ⟨⟨t1, n1, s2, m2, s3, m3, ⟨hB, hR, row_stays hb.r2 hT far2, row_stays hb.r3 hT far3, ?_, ?_, hb.d23⟩, ?_⟩, hT.mono ?_⟩
  · intro b e1 e2
    rcases g2 b e1 with h | h
    · exact hb.d12 b h e2
    · have := hb.r2.set.lt e2; omega
  · intro b e1 e2
    rcases g2 b e1 with h | h
    · exact hb.d13 b h e2
    · have := hb.r3.set.lt e2; omega
  · rintro k (rfl | (hk | hk) | hk)
    · exact .inl (hf _ (.inl rfl))
    · exact (g1 k hk).imp (fun h => hf k (.inr (.inl (.inl h)))) (fun h => ⟨h, row_lt hR k (.inl hk)⟩)
    · exact (g2 k hk).imp (fun h => hf k (.inr (.inl (.inr h)))) (fun h => ⟨h, row_lt hR k (.inr hk)⟩)
    · exact .inl (hf k (.inr (.inr hk)))
  · rintro k _ (rfl | hk | hk)
    · exact hf _ (.inl rfl)
    · exact hf k (.inr (.inl (.inl hk)))
    · exact hf k (.inr (.inl (.inr hk)))

theorem book_next2 {s1 m1 s2 m2 s3 m3 : Value} (hb : BookIs w p s1 m1 s2 m2 s3 m3 S M T) (hf : ∀ k, BookFoot p s1 m1 s2 m2 s3 m3 k → F k) (hN : Next_ Try.prog 88 5 p 79 2 #[s1, m1, s2, m2, s3, m3] s2 m2 (M'.map madeV) w w') :
    BookAt w' (Grow F w w') p S M' T ∧ Turned F w w' := by
  obtain ⟨t1, n1, hB, hR, hT, g1, g2⟩ := hN
  have far1 := row_far hb.r2 hb.r1 (by decide) hb.blk (by decide) (fun b h h' => hb.d12 b h' h)
  have far3 := row_far hb.r2 hb.r3 (by decide) hb.blk (by decide) hb.d23
  refine ⟨⟨s1, m1, t1, n1, s3, m3, ⟨hB, row_stays hb.r1 hT far1, hR, row_stays hb.r3 hT far3, ?_, hb.d13, ?_⟩, ?_⟩, hT.mono ?_⟩
  · intro b e1 e2
    rcases g2 b e2 with h | h
    · exact hb.d12 b e1 h
    · have := hb.r1.set.lt e1; omega
  · intro b e1 e2
    rcases g2 b e1 with h | h
    · exact hb.d23 b h e2
    · have := hb.r3.set.lt e2; omega
  · rintro k (rfl | hk | (hk | hk) | hk)
    · exact .inl (hf _ (.inl rfl))
    · exact .inl (hf k (.inr (.inl hk)))
    · exact (g1 k hk).imp (fun h => hf k (.inr (.inr (.inl (.inl h))))) (fun h => ⟨h, row_lt hR k (.inl hk)⟩)
    · exact (g2 k hk).imp (fun h => hf k (.inr (.inr (.inl (.inr h))))) (fun h => ⟨h, row_lt hR k (.inr hk)⟩)
    · exact .inl (hf k (.inr (.inr (.inr hk))))
  · rintro k _ (rfl | hk | hk)
    · exact hf _ (.inl rfl)
    · exact hf k (.inr (.inr (.inl (.inl hk))))
    · exact hf k (.inr (.inr (.inl (.inr hk))))

theorem book_next3 {s1 m1 s2 m2 s3 m3 : Value} (hb : BookIs w p s1 m1 s2 m2 s3 m3 S M T) (hf : ∀ k, BookFoot p s1 m1 s2 m2 s3 m3 k → F k) (hN : Next_ Try.prog 34 1 p 79 4 #[s1, m1, s2, m2, s3, m3] s3 m3 (T'.map atomV) w w') :
    BookAt w' (Grow F w w') p S M T' ∧ Turned F w w' := by
  obtain ⟨t1, n1, hB, hR, hT, g1, g2⟩ := hN
  have far1 := row_far hb.r3 hb.r1 (by decide) hb.blk (by decide) (fun b h h' => hb.d13 b h' h)
  have far2 := row_far hb.r3 hb.r2 (by decide) hb.blk (by decide) (fun b h h' => hb.d23 b h' h)
  refine ⟨⟨s1, m1, s2, m2, t1, n1, ⟨hB, row_stays hb.r1 hT far1, row_stays hb.r2 hT far2, hR, hb.d12, ?_, ?_⟩, ?_⟩, hT.mono ?_⟩
  · intro b e1 e2
    rcases g2 b e2 with h | h
    · exact hb.d13 b e1 h
    · have := hb.r1.set.lt e1; omega
  · intro b e1 e2
    rcases g2 b e2 with h | h
    · exact hb.d23 b e1 h
    · have := hb.r2.set.lt e1; omega
  · rintro k (rfl | hk | hk | hk | hk)
    · exact .inl (hf _ (.inl rfl))
    · exact .inl (hf k (.inr (.inl hk)))
    · exact .inl (hf k (.inr (.inr (.inl hk))))
    · exact (g1 k hk).imp (fun h => hf k (.inr (.inr (.inr (.inl h))))) (fun h => ⟨h, row_lt hR k (.inl hk)⟩)
    · exact (g2 k hk).imp (fun h => hf k (.inr (.inr (.inr (.inr h))))) (fun h => ⟨h, row_lt hR k (.inr hk)⟩)
  · rintro k _ (rfl | hk | hk)
    · exact hf _ (.inl rfl)
    · exact hf k (.inr (.inr (.inr (.inl hk))))
    · exact hf k (.inr (.inr (.inr (.inr hk))))
end
end Go.Proofs.Ytkldepflfomegaa
